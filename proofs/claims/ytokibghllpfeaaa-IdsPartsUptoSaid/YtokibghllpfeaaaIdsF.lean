/- The laws of layer 10: the call of each returns true. Conditions: none, but that no row is greater than memory bears. -/
import Derived.Test.YtokibghllpfeaaaIdsE
set_option linter.unusedSimpArgs false
set_option linter.unusedVariables false
namespace Go.Proofs.Ytokibghllpfeaaa
open Go.Proofs.Ytokibghllpfeaaa.AL
theorem rowZ_lit (l : List Int) (g : Nat → List Dat) (h : ∀ i, i < l.length → g i = rowZ l i) : PLe (.d (.sl 1 l.length g)) (.d (.sl 1 l.length (rowZ l))) := ple_sl rfl h
theorem mkA : mkZ [3, 1, 3, 2] = [1, 2, 3] := mkZ_eq (inc_of (by decide)) fun x => by simp; omega
theorem mkA2 : mkZ [1, 2, 3] = [1, 2, 3] := mkZ_eq (inc_of (by decide)) fun x => by simp
theorem mkB : mkZ [2, 9] = [2, 9] := mkZ_eq (inc_of (by decide)) fun x => by simp
theorem joinAB : joinZ [1, 2, 3] [2, 9] = [1, 2, 3, 9] := mkZ_eq (inc_of (by decide)) fun x => by simp; omega
theorem meetAB : meetZ [1, 2, 3] [2, 9] = [2] := by unfold meetZ; rw [mkA2]; decide
theorem lessAB : lessZ [1, 2, 3] [2, 9] = [1, 3] := by unfold lessZ; rw [mkA2]; decide
set_option maxRecDepth 100000 in
set_option maxHeartbeats 2000000 in
theorem awake10_c : ACalls Try.prog 23 [] (· = [.d (.v (.bool true))]) := by
  have m1 := acalls_le (.cons (rowZ_lit [3, 1, 3, 2] (fun i => [[Dat.v (.int .i64 3)], [Dat.v (.int .i64 1)], [Dat.v (.int .i64 3)], [Dat.v (.int .i64 2)]].getD i []) (fun i hi => by rcases i with _ | _ | _ | _ | i <;> first | rfl | (simp only [List.length_cons, List.length_nil] at hi; omega))) .nil) (MakeS_c [3, 1, 3, 2] (by simp))
  rw [mkA] at m1
  have m2 := acalls_le (.cons (rowZ_lit [2, 9] (fun i => [[Dat.v (.int .i64 2)], [Dat.v (.int .i64 9)]].getD i []) (fun i hi => by rcases i with _ | _ | i <;> first | rfl | (simp only [List.length_cons, List.length_nil] at hi; omega))) .nil) (MakeS_c [2, 9] (by simp))
  rw [mkB] at m2
  have f1 := SoundZ_c [1, 2, 3] (by simp)
  rw [show soundZ [1, 2, 3] = true from by decide] at f1
  have f2 := HasS_c [1, 2, 3] 2 (by simp)
  rw [show ([1, 2, 3] : List Int).contains 2 = true from by decide] at f2
  have f3 := JoinS_c [1, 2, 3] [2, 9] (by simp) (by simp)
  rw [joinAB] at f3
  have f4 := MeetS_c [1, 2, 3] [2, 9] (by simp) (by simp)
  rw [meetAB] at f4
  have f5 := LessS_c [1, 2, 3] [2, 9] (by simp) (by simp)
  rw [lessAB] at f5
  have f6 := CompareS_c [1, 2, 3] [2, 9] (by simp) (by simp)
  rw [mkA2, mkB, show cmpL [1, 2, 3] [2, 9] = -1 from by decide] at f6
  have r3 : rowZ [1, 2, 3] 2 = [.v (.int .i64 3)] := rfl
  simp only [List.length_cons, List.length_nil, Nat.zero_add, Nat.reduceAdd] at m1 m2 f1 f2 f3 f4 f5 f6
  generalize rowZ [1, 2, 3] = RA at m1 f1 f2 f3 f4 f5 f6 r3
  generalize rowZ [2, 9] = RB at m2 f3 f4 f5 f6
  generalize rowZ [1, 2, 3, 9] = RC at f3
  generalize rowZ [2] = RD at f4
  generalize rowZ [1, 3] = RE at f5
  refine acalls_of_awp Try.func23 rfl (by decide +kernel) (by rw [Try.ntmps23]; simp) ?_; rw [Try.ntmps23]; simp only [frOf]
  (repeat (first | refine awp_seq ?_ | refine awp_yes rfl ?_ | refine awp_no rfl ?_ | refine awp_block ?_ | (refine awp_region fun K hK => ?_) | (refine awp_draw (by kernel_rfl) (by kernel_rfl) fun K hK => ?_) | (refine awp_skip ?_; (first | show AWP _ _ _ _ _ | show loopQ _ _ _ _ _ _ | (simp only [blockQ_n]; first | show AWP _ _ _ _ _ | show loopQ _ _ _ _ _ _))) | (refine awp_exit ?_; (first | show AWP _ _ _ _ _ | show loopQ _ _ _ _ _ _ | (simp only [blockQ_n]; first | show AWP _ _ _ _ _ | show loopQ _ _ _ _ _ _))) | ((first | refine walkS_end (hK _ ?_) | refine walkD_end (hK _ _ (okTrace_spec (by kernel_rfl)) ?_)); clear hK K; (first | show AWP _ _ _ _ _ | show loopQ _ _ _ _ _ _ | (simp only [blockQ_n]; first | show AWP _ _ _ _ _ | show loopQ _ _ _ _ _ _))) | ((first | refine walkS_call3 rfl rfl rfl ?_ | refine walkD_call3 rfl rfl rfl ?_); simp (maxSteps := 2000000) (disch := omega) only [go_sem, ↓reduceIte, reduceCtorEq, Nat.reduceLT, Nat.reducePow, Nat.reduceLeDiff, Nat.reduceAdd, Nat.reduceMul, Nat.reduceSub, Nat.reduceEqDiff, Nat.reduceBEq, Int.reduceToNat, Int.reduceBEq, Int.reduceBNe, ty30, ty99, ty3, ty4, un4, r3]; (first | refine ⟨_, m1, ?_⟩ | refine ⟨_, m2, ?_⟩ | refine ⟨_, f1, ?_⟩ | refine ⟨_, f2, ?_⟩ | refine ⟨_, f3, ?_⟩ | refine ⟨_, f4, ?_⟩ | refine ⟨_, f5, ?_⟩ | refine ⟨_, f6, ?_⟩)) | ((first | refine walkS_run1 [] rfl ?_ | refine walkD_run1 [] rfl ?_); simp (maxSteps := 2000000) (disch := omega) only [go_sem, ↓reduceIte, reduceCtorEq, Nat.reduceLT, Nat.reducePow, Nat.reduceLeDiff, Nat.reduceAdd, Nat.reduceMul, Nat.reduceSub, Nat.reduceEqDiff, Nat.reduceBEq, Int.reduceToNat, Int.reduceBEq, Int.reduceBNe, ty30, ty99, ty3, ty4, un4, r3]; (repeat (first | refine ⟨by omega, ?_⟩ | refine ⟨True.intro, ?_⟩)))))
  refine awp_ret ⟨_, ?_, rfl⟩; rw [Try.results23]; simp (disch := omega) only [ResVars, ResVar, ptrLoc, go_sem, ↓reduceIte, reduceCtorEq, Nat.reduceLT, Nat.reducePow, Nat.reduceLeDiff, Nat.reduceAdd, Nat.reduceMul, Nat.reduceSub, Nat.reduceEqDiff, Nat.reduceBEq, Int.reduceToNat, Int.reduceBEq, Int.reduceBNe, ty30, ty99, ty3, ty4, un4, r3]
def makesI (l : List Int) (n : Int) (s : {i : Nat // 1 ≤ i ∧ (i ≤ l.length ∨ i = 1)}) : ASt :=
  ⟨[(6, .p (.d (.v (.int .i64 (s.val : Int))))), (5, .p (.d (.v (.bool (incTo l s.val))))), (1, .p (.d (.v (.int .i64 n)))), (0, .p (.d (.sl 1 l.length (rowZ l))))], []⟩
theorem incTo_sound {l : List Int} {i : Nat} (h1 : 1 ≤ i) (h2 : i ≤ l.length ∨ i = 1) (h : ¬ i < l.length) : incTo l i = soundZ l := by
  unfold soundZ
  rcases Nat.lt_or_eq_of_le (show l.length ≤ i by omega) with hlt | rfl
  · have h0 : l.length = 0 := by omega
    have h3 : i = 1 := by omega
    rw [h0, h3, incTo_one]; rfl
  · rfl
set_option maxRecDepth 100000 in
set_option maxHeartbeats 2000000 in
theorem IdsMakes_c (l : List Int) (n : Int) (hl : l.length ≤ 1099511627776) : ACalls Try.prog 8 [.d (.sl 1 l.length (rowZ l)), .d (.v (.int .i64 n))] (· = [.d (.v (.bool true))]) := by
  by_cases h : l.length ≤ 300
  all_goals
    refine acalls_of_awp Try.func8 rfl (by decide +kernel) (by rw [Try.ntmps8]; simp) ?_; rw [Try.ntmps8]; simp only [frOf]
    (repeat ((fail_if_success (show AWP _ _ (.region 3 _ _) _ _)); first | refine awp_seq ?_ | refine awp_yes rfl ?_ | refine awp_no rfl ?_ | refine awp_block ?_ | (refine awp_region fun K hK => ?_) | (refine awp_draw (by kernel_rfl) (by kernel_rfl) fun K hK => ?_) | (refine awp_skip ?_; (first | show AWP _ _ _ _ _ | show loopQ _ _ _ _ _ _ | (simp only [blockQ_n]; first | show AWP _ _ _ _ _ | show loopQ _ _ _ _ _ _))) | (refine awp_exit ?_; (first | show AWP _ _ _ _ _ | show loopQ _ _ _ _ _ _ | (simp only [blockQ_n]; first | show AWP _ _ _ _ _ | show loopQ _ _ _ _ _ _))) | ((first | refine walkS_end (hK _ ?_) | refine walkD_end (hK _ _ (okTrace_spec (by kernel_rfl)) ?_)); clear hK K; (first | show AWP _ _ _ _ _ | show loopQ _ _ _ _ _ _ | (simp only [blockQ_n]; first | show AWP _ _ _ _ _ | show loopQ _ _ _ _ _ _))) | ((first | refine walkS_run1 [] rfl ?_ | refine walkD_run1 [] rfl ?_); simp (maxSteps := 2000000) (disch := omega) only [go_sem, ↓reduceIte, reduceCtorEq, Nat.reduceLT, Nat.reducePow, Nat.reduceLeDiff, Nat.reduceAdd, Nat.reduceMul, Nat.reduceSub, Nat.reduceEqDiff, Nat.reduceBEq, Int.reduceToNat, Int.reduceBEq, Int.reduceBNe, ty30, ty99, ty3, ty4, un4]; (repeat (first | refine ⟨by omega, ?_⟩ | refine ⟨True.intro, ?_⟩)))))
  · obtain ⟨m, hm⟩ : ∃ m, l = m := ⟨l, rfl⟩
    subst hm
    have hn : l.length ≤ 300 := h
    clear h
    (repeat (first | refine awp_seq ?_ | refine awp_yes rfl ?_ | refine awp_no rfl ?_ | refine awp_block ?_ | (refine awp_region fun K hK => ?_) | (refine awp_draw (by kernel_rfl) (by kernel_rfl) fun K hK => ?_) | (refine awp_skip ?_; (first | show AWP _ _ _ _ _ | show loopQ _ _ _ _ _ _ | (simp only [blockQ_n]; first | show AWP _ _ _ _ _ | show loopQ _ _ _ _ _ _))) | (refine awp_exit ?_; (first | show AWP _ _ _ _ _ | show loopQ _ _ _ _ _ _ | (simp only [blockQ_n]; first | show AWP _ _ _ _ _ | show loopQ _ _ _ _ _ _))) | ((first | refine walkS_end (hK _ ?_) | refine walkD_end (hK _ _ (okTrace_spec (by kernel_rfl)) ?_)); clear hK K; (first | show AWP _ _ _ _ _ | show loopQ _ _ _ _ _ _ | (simp only [blockQ_n]; first | show AWP _ _ _ _ _ | show loopQ _ _ _ _ _ _))) | ((first | refine walkS_run1 [] rfl ?_ | refine walkD_run1 [] rfl ?_); simp (maxSteps := 2000000) (disch := omega) only [go_sem, ↓reduceIte, reduceCtorEq, Nat.reduceLT, Nat.reducePow, Nat.reduceLeDiff, Nat.reduceAdd, Nat.reduceMul, Nat.reduceSub, Nat.reduceEqDiff, Nat.reduceBEq, Int.reduceToNat, Int.reduceBEq, Int.reduceBNe, ty30, ty99, ty3, ty4, un4]; (repeat (first | refine ⟨by omega, ?_⟩ | refine ⟨True.intro, ?_⟩)))))
    refine awp_loop (makesI l n) (fun s => l.length - s.val) ⟨1, by omega, by omega⟩ ?_ (fun s => ?_)
    · unfold makesI
      rw [incTo_one]
      refine Weak.list ?_ ?_; (all_goals simp (disch := omega) only [AllF, AllL, le_self, le_top, lle_self, exists_eq_left', Option.some.injEq, go_sem, ↓reduceIte, reduceCtorEq, Nat.reduceLT, Nat.reducePow, Nat.reduceLeDiff, Nat.reduceAdd, Nat.reduceMul, Nat.reduceSub, Nat.reduceEqDiff, Nat.reduceBEq, Int.reduceToNat, Int.reduceBEq, Int.reduceBNe, ty30, ty99, ty3, ty4, un4]); (all_goals (repeat' (with_reducible apply And.intro))); (all_goals try (first | exact le_eq rfl | (refine le_int ?_; omega) | (refine le_eq ?_; simp; done)))
    obtain ⟨i, h1, h2⟩ := s
    unfold makesI
    simp only [] at h1 h2 ⊢
    by_cases hi : i < l.length
    · obtain ⟨k, rfl⟩ : ∃ k, i = k + 1 := ⟨i - 1, by omega⟩
      have r1 := rowZ_at l (k + 1)
      have r2 := rowZ_at l k
      have st := incTo_succ l (k + 1)
      rw [Nat.add_sub_cancel, show (k + 1 == 0) = false from rfl, Bool.false_or] at st
      generalize l.getD (k + 1) 0 = a at r1 st
      generalize l.getD k 0 = b at r2 st
      generalize incTo l (k + 1) = c at st
      cases c
      · (repeat (first | refine awp_seq ?_ | refine awp_yes rfl ?_ | refine awp_no rfl ?_ | refine awp_block ?_ | (refine awp_region fun K hK => ?_) | (refine awp_draw (by kernel_rfl) (by kernel_rfl) fun K hK => ?_) | (refine awp_skip ?_; (first | show AWP _ _ _ _ _ | show loopQ _ _ _ _ _ _ | (simp only [blockQ_n]; first | show AWP _ _ _ _ _ | show loopQ _ _ _ _ _ _))) | (refine awp_exit ?_; (first | show AWP _ _ _ _ _ | show loopQ _ _ _ _ _ _ | (simp only [blockQ_n]; first | show AWP _ _ _ _ _ | show loopQ _ _ _ _ _ _))) | ((first | refine walkS_end (hK _ ?_) | refine walkD_end (hK _ _ (okTrace_spec (by kernel_rfl)) ?_)); clear hK K; (first | show AWP _ _ _ _ _ | show loopQ _ _ _ _ _ _ | (simp only [blockQ_n]; first | show AWP _ _ _ _ _ | show loopQ _ _ _ _ _ _))) | ((first | refine walkS_run1 [] rfl ?_ | refine walkD_run1 [] rfl ?_); simp (maxSteps := 2000000) (disch := omega) only [go_sem, ↓reduceIte, reduceCtorEq, Nat.reduceLT, Nat.reducePow, Nat.reduceLeDiff, Nat.reduceAdd, Nat.reduceMul, Nat.reduceSub, Nat.reduceEqDiff, Nat.reduceBEq, Int.reduceToNat, Int.reduceBEq, Int.reduceBNe, ty30, ty99, ty3, ty4, un4, r1, r2]; (repeat (first | refine ⟨by omega, ?_⟩ | refine ⟨True.intro, ?_⟩)))))
        refine ⟨⟨k + 1 + 1, by omega, by omega⟩, by simp only []; omega, ?_⟩
        rw [Bool.false_and] at st
        simp only [st]
        refine Weak.list ?_ ?_; (all_goals simp (disch := omega) only [AllF, AllL, le_self, le_top, lle_self, exists_eq_left', Option.some.injEq, go_sem, ↓reduceIte, reduceCtorEq, Nat.reduceLT, Nat.reducePow, Nat.reduceLeDiff, Nat.reduceAdd, Nat.reduceMul, Nat.reduceSub, Nat.reduceEqDiff, Nat.reduceBEq, Int.reduceToNat, Int.reduceBEq, Int.reduceBNe, ty30, ty99, ty3, ty4, un4, r1, r2]); (all_goals (repeat' (with_reducible apply And.intro))); (all_goals try (first | exact le_eq rfl | (refine le_int ?_; omega) | (refine le_eq ?_; simp; done)))
      · rw [Bool.true_and] at st
        (repeat (first | refine awp_seq ?_ | refine awp_yes rfl ?_ | refine awp_no rfl ?_ | refine awp_block ?_ | (refine awp_region fun K hK => ?_) | (refine awp_draw (by kernel_rfl) (by kernel_rfl) fun K hK => ?_) | (refine awp_skip ?_; (first | show AWP _ _ _ _ _ | show loopQ _ _ _ _ _ _ | (simp only [blockQ_n]; first | show AWP _ _ _ _ _ | show loopQ _ _ _ _ _ _))) | (refine awp_exit ?_; (first | show AWP _ _ _ _ _ | show loopQ _ _ _ _ _ _ | (simp only [blockQ_n]; first | show AWP _ _ _ _ _ | show loopQ _ _ _ _ _ _))) | ((first | refine walkS_end (hK _ ?_) | refine walkD_end (hK _ _ (okTrace_spec (by kernel_rfl)) ?_)); clear hK K; (first | show AWP _ _ _ _ _ | show loopQ _ _ _ _ _ _ | (simp only [blockQ_n]; first | show AWP _ _ _ _ _ | show loopQ _ _ _ _ _ _))) | ((first | refine walkS_run1 [] rfl ?_ | refine walkD_run1 [] rfl ?_); simp (maxSteps := 2000000) (disch := omega) only [go_sem, ↓reduceIte, reduceCtorEq, Nat.reduceLT, Nat.reducePow, Nat.reduceLeDiff, Nat.reduceAdd, Nat.reduceMul, Nat.reduceSub, Nat.reduceEqDiff, Nat.reduceBEq, Int.reduceToNat, Int.reduceBEq, Int.reduceBNe, ty30, ty99, ty3, ty4, un4, r1, r2]; (repeat (first | refine ⟨by omega, ?_⟩ | refine ⟨True.intro, ?_⟩)))))
        refine ⟨⟨k + 1 + 1, by omega, by omega⟩, by simp only []; omega, ?_⟩
        simp only [st]
        refine Weak.list ?_ ?_; (all_goals simp (disch := omega) only [AllF, AllL, le_self, le_top, lle_self, exists_eq_left', Option.some.injEq, go_sem, ↓reduceIte, reduceCtorEq, Nat.reduceLT, Nat.reducePow, Nat.reduceLeDiff, Nat.reduceAdd, Nat.reduceMul, Nat.reduceSub, Nat.reduceEqDiff, Nat.reduceBEq, Int.reduceToNat, Int.reduceBEq, Int.reduceBNe, ty30, ty99, ty3, ty4, un4, r1, r2]); (all_goals (repeat' (with_reducible apply And.intro))); (all_goals try (first | exact le_eq rfl | (refine le_int ?_; omega) | (refine le_eq ?_; simp; done)))
    · rw [incTo_sound h1 h2 hi]
      have f1 := MakeS_c l (by omega)
      have f2 := SetS_c l (by omega)
      have hm := mkZ_len l
      have f3 := Ints_c (mkZ l) (mkZ l) (by omega) (by omega)
      rw [beq_self_eq_true] at f3
      have f4 := SoundZ_c l (by omega)
      have f5 := HasS_c l n (by omega)
      have f6 := hasL_c l n (by omega)
      generalize soundZ l = b1 at f4
      generalize l.contains n = b2 at f5 f6
      cases b1 <;> cases b2
      all_goals
        (repeat (first | refine awp_seq ?_ | refine awp_yes rfl ?_ | refine awp_no rfl ?_ | refine awp_block ?_ | (refine awp_region fun K hK => ?_) | (refine awp_draw (by kernel_rfl) (by kernel_rfl) fun K hK => ?_) | (refine awp_skip ?_; (first | show AWP _ _ _ _ _ | show loopQ _ _ _ _ _ _ | (simp only [blockQ_n]; first | show AWP _ _ _ _ _ | show loopQ _ _ _ _ _ _))) | (refine awp_exit ?_; (first | show AWP _ _ _ _ _ | show loopQ _ _ _ _ _ _ | (simp only [blockQ_n]; first | show AWP _ _ _ _ _ | show loopQ _ _ _ _ _ _))) | ((first | refine walkS_end (hK _ ?_) | refine walkD_end (hK _ _ (okTrace_spec (by kernel_rfl)) ?_)); clear hK K; (first | show AWP _ _ _ _ _ | show loopQ _ _ _ _ _ _ | (simp only [blockQ_n]; first | show AWP _ _ _ _ _ | show loopQ _ _ _ _ _ _))) | ((first | refine walkS_call3 rfl rfl rfl ?_ | refine walkD_call3 rfl rfl rfl ?_); simp (maxSteps := 2000000) (disch := omega) only [go_sem, ↓reduceIte, reduceCtorEq, Nat.reduceLT, Nat.reducePow, Nat.reduceLeDiff, Nat.reduceAdd, Nat.reduceMul, Nat.reduceSub, Nat.reduceEqDiff, Nat.reduceBEq, Int.reduceToNat, Int.reduceBEq, Int.reduceBNe, ty30, ty99, ty3, ty4, un4]; (first | refine ⟨_, awake10_c, ?_⟩ | refine ⟨_, f1, ?_⟩ | refine ⟨_, f2, ?_⟩ | refine ⟨_, f3, ?_⟩ | refine ⟨_, f4, ?_⟩ | refine ⟨_, f5, ?_⟩ | refine ⟨_, f6, ?_⟩)) | ((first | refine walkS_run1 [] rfl ?_ | refine walkD_run1 [] rfl ?_); simp (maxSteps := 2000000) (disch := omega) only [go_sem, ↓reduceIte, reduceCtorEq, Nat.reduceLT, Nat.reducePow, Nat.reduceLeDiff, Nat.reduceAdd, Nat.reduceMul, Nat.reduceSub, Nat.reduceEqDiff, Nat.reduceBEq, Int.reduceToNat, Int.reduceBEq, Int.reduceBNe, ty30, ty99, ty3, ty4, un4]; (repeat (first | refine ⟨by omega, ?_⟩ | refine ⟨True.intro, ?_⟩)))))
        refine awp_ret ⟨_, ?_, rfl⟩; rw [Try.results8]; simp (disch := omega) only [ResVars, ResVar, ptrLoc, go_sem, ↓reduceIte, reduceCtorEq, Nat.reduceLT, Nat.reducePow, Nat.reduceLeDiff, Nat.reduceAdd, Nat.reduceMul, Nat.reduceSub, Nat.reduceEqDiff, Nat.reduceBEq, Int.reduceToNat, Int.reduceBEq, Int.reduceBNe, ty30, ty99, ty3, ty4, un4]
  · refine awp_slot 0 _ (.p (.d (.sl 1 (l.take 300).length (rowZ (l.take 300))))) rfl (le_sl (by simp; omega) (fun i hi => by
      unfold rowZ
      simp only [List.getD_eq_getElem?_getD]
      rw [List.getElem?_take_of_lt (by omega)])) ?_
    have hn : (l.take 300).length ≤ 300 := by simp; omega
    generalize l.take 300 = l at hn
    (repeat (first | refine awp_seq ?_ | refine awp_yes rfl ?_ | refine awp_no rfl ?_ | refine awp_block ?_ | (refine awp_region fun K hK => ?_) | (refine awp_draw (by kernel_rfl) (by kernel_rfl) fun K hK => ?_) | (refine awp_skip ?_; (first | show AWP _ _ _ _ _ | show loopQ _ _ _ _ _ _ | (simp only [blockQ_n]; first | show AWP _ _ _ _ _ | show loopQ _ _ _ _ _ _))) | (refine awp_exit ?_; (first | show AWP _ _ _ _ _ | show loopQ _ _ _ _ _ _ | (simp only [blockQ_n]; first | show AWP _ _ _ _ _ | show loopQ _ _ _ _ _ _))) | ((first | refine walkS_end (hK _ ?_) | refine walkD_end (hK _ _ (okTrace_spec (by kernel_rfl)) ?_)); clear hK K; (first | show AWP _ _ _ _ _ | show loopQ _ _ _ _ _ _ | (simp only [blockQ_n]; first | show AWP _ _ _ _ _ | show loopQ _ _ _ _ _ _))) | ((first | refine walkS_run1 [] rfl ?_ | refine walkD_run1 [] rfl ?_); simp (maxSteps := 2000000) (disch := omega) only [go_sem, ↓reduceIte, reduceCtorEq, Nat.reduceLT, Nat.reducePow, Nat.reduceLeDiff, Nat.reduceAdd, Nat.reduceMul, Nat.reduceSub, Nat.reduceEqDiff, Nat.reduceBEq, Int.reduceToNat, Int.reduceBEq, Int.reduceBNe, ty30, ty99, ty3, ty4, un4]; (repeat (first | refine ⟨by omega, ?_⟩ | refine ⟨True.intro, ?_⟩)))))
    refine awp_loop (makesI l n) (fun s => l.length - s.val) ⟨1, by omega, by omega⟩ ?_ (fun s => ?_)
    · unfold makesI
      rw [incTo_one]
      refine Weak.list ?_ ?_; (all_goals simp (disch := omega) only [AllF, AllL, le_self, le_top, lle_self, exists_eq_left', Option.some.injEq, go_sem, ↓reduceIte, reduceCtorEq, Nat.reduceLT, Nat.reducePow, Nat.reduceLeDiff, Nat.reduceAdd, Nat.reduceMul, Nat.reduceSub, Nat.reduceEqDiff, Nat.reduceBEq, Int.reduceToNat, Int.reduceBEq, Int.reduceBNe, ty30, ty99, ty3, ty4, un4]); (all_goals (repeat' (with_reducible apply And.intro))); (all_goals try (first | exact le_eq rfl | (refine le_int ?_; omega) | (refine le_eq ?_; simp; done)))
    obtain ⟨i, h1, h2⟩ := s
    unfold makesI
    simp only [] at h1 h2 ⊢
    by_cases hi : i < l.length
    · obtain ⟨k, rfl⟩ : ∃ k, i = k + 1 := ⟨i - 1, by omega⟩
      have r1 := rowZ_at l (k + 1)
      have r2 := rowZ_at l k
      have st := incTo_succ l (k + 1)
      rw [Nat.add_sub_cancel, show (k + 1 == 0) = false from rfl, Bool.false_or] at st
      generalize l.getD (k + 1) 0 = a at r1 st
      generalize l.getD k 0 = b at r2 st
      generalize incTo l (k + 1) = c at st
      cases c
      · (repeat (first | refine awp_seq ?_ | refine awp_yes rfl ?_ | refine awp_no rfl ?_ | refine awp_block ?_ | (refine awp_region fun K hK => ?_) | (refine awp_draw (by kernel_rfl) (by kernel_rfl) fun K hK => ?_) | (refine awp_skip ?_; (first | show AWP _ _ _ _ _ | show loopQ _ _ _ _ _ _ | (simp only [blockQ_n]; first | show AWP _ _ _ _ _ | show loopQ _ _ _ _ _ _))) | (refine awp_exit ?_; (first | show AWP _ _ _ _ _ | show loopQ _ _ _ _ _ _ | (simp only [blockQ_n]; first | show AWP _ _ _ _ _ | show loopQ _ _ _ _ _ _))) | ((first | refine walkS_end (hK _ ?_) | refine walkD_end (hK _ _ (okTrace_spec (by kernel_rfl)) ?_)); clear hK K; (first | show AWP _ _ _ _ _ | show loopQ _ _ _ _ _ _ | (simp only [blockQ_n]; first | show AWP _ _ _ _ _ | show loopQ _ _ _ _ _ _))) | ((first | refine walkS_run1 [] rfl ?_ | refine walkD_run1 [] rfl ?_); simp (maxSteps := 2000000) (disch := omega) only [go_sem, ↓reduceIte, reduceCtorEq, Nat.reduceLT, Nat.reducePow, Nat.reduceLeDiff, Nat.reduceAdd, Nat.reduceMul, Nat.reduceSub, Nat.reduceEqDiff, Nat.reduceBEq, Int.reduceToNat, Int.reduceBEq, Int.reduceBNe, ty30, ty99, ty3, ty4, un4, r1, r2]; (repeat (first | refine ⟨by omega, ?_⟩ | refine ⟨True.intro, ?_⟩)))))
        refine ⟨⟨k + 1 + 1, by omega, by omega⟩, by simp only []; omega, ?_⟩
        rw [Bool.false_and] at st
        simp only [st]
        refine Weak.list ?_ ?_; (all_goals simp (disch := omega) only [AllF, AllL, le_self, le_top, lle_self, exists_eq_left', Option.some.injEq, go_sem, ↓reduceIte, reduceCtorEq, Nat.reduceLT, Nat.reducePow, Nat.reduceLeDiff, Nat.reduceAdd, Nat.reduceMul, Nat.reduceSub, Nat.reduceEqDiff, Nat.reduceBEq, Int.reduceToNat, Int.reduceBEq, Int.reduceBNe, ty30, ty99, ty3, ty4, un4, r1, r2]); (all_goals (repeat' (with_reducible apply And.intro))); (all_goals try (first | exact le_eq rfl | (refine le_int ?_; omega) | (refine le_eq ?_; simp; done)))
      · rw [Bool.true_and] at st
        (repeat (first | refine awp_seq ?_ | refine awp_yes rfl ?_ | refine awp_no rfl ?_ | refine awp_block ?_ | (refine awp_region fun K hK => ?_) | (refine awp_draw (by kernel_rfl) (by kernel_rfl) fun K hK => ?_) | (refine awp_skip ?_; (first | show AWP _ _ _ _ _ | show loopQ _ _ _ _ _ _ | (simp only [blockQ_n]; first | show AWP _ _ _ _ _ | show loopQ _ _ _ _ _ _))) | (refine awp_exit ?_; (first | show AWP _ _ _ _ _ | show loopQ _ _ _ _ _ _ | (simp only [blockQ_n]; first | show AWP _ _ _ _ _ | show loopQ _ _ _ _ _ _))) | ((first | refine walkS_end (hK _ ?_) | refine walkD_end (hK _ _ (okTrace_spec (by kernel_rfl)) ?_)); clear hK K; (first | show AWP _ _ _ _ _ | show loopQ _ _ _ _ _ _ | (simp only [blockQ_n]; first | show AWP _ _ _ _ _ | show loopQ _ _ _ _ _ _))) | ((first | refine walkS_run1 [] rfl ?_ | refine walkD_run1 [] rfl ?_); simp (maxSteps := 2000000) (disch := omega) only [go_sem, ↓reduceIte, reduceCtorEq, Nat.reduceLT, Nat.reducePow, Nat.reduceLeDiff, Nat.reduceAdd, Nat.reduceMul, Nat.reduceSub, Nat.reduceEqDiff, Nat.reduceBEq, Int.reduceToNat, Int.reduceBEq, Int.reduceBNe, ty30, ty99, ty3, ty4, un4, r1, r2]; (repeat (first | refine ⟨by omega, ?_⟩ | refine ⟨True.intro, ?_⟩)))))
        refine ⟨⟨k + 1 + 1, by omega, by omega⟩, by simp only []; omega, ?_⟩
        simp only [st]
        refine Weak.list ?_ ?_; (all_goals simp (disch := omega) only [AllF, AllL, le_self, le_top, lle_self, exists_eq_left', Option.some.injEq, go_sem, ↓reduceIte, reduceCtorEq, Nat.reduceLT, Nat.reducePow, Nat.reduceLeDiff, Nat.reduceAdd, Nat.reduceMul, Nat.reduceSub, Nat.reduceEqDiff, Nat.reduceBEq, Int.reduceToNat, Int.reduceBEq, Int.reduceBNe, ty30, ty99, ty3, ty4, un4, r1, r2]); (all_goals (repeat' (with_reducible apply And.intro))); (all_goals try (first | exact le_eq rfl | (refine le_int ?_; omega) | (refine le_eq ?_; simp; done)))
    · rw [incTo_sound h1 h2 hi]
      have f1 := MakeS_c l (by omega)
      have f2 := SetS_c l (by omega)
      have hm := mkZ_len l
      have f3 := Ints_c (mkZ l) (mkZ l) (by omega) (by omega)
      rw [beq_self_eq_true] at f3
      have f4 := SoundZ_c l (by omega)
      have f5 := HasS_c l n (by omega)
      have f6 := hasL_c l n (by omega)
      generalize soundZ l = b1 at f4
      generalize l.contains n = b2 at f5 f6
      cases b1 <;> cases b2
      all_goals
        (repeat (first | refine awp_seq ?_ | refine awp_yes rfl ?_ | refine awp_no rfl ?_ | refine awp_block ?_ | (refine awp_region fun K hK => ?_) | (refine awp_draw (by kernel_rfl) (by kernel_rfl) fun K hK => ?_) | (refine awp_skip ?_; (first | show AWP _ _ _ _ _ | show loopQ _ _ _ _ _ _ | (simp only [blockQ_n]; first | show AWP _ _ _ _ _ | show loopQ _ _ _ _ _ _))) | (refine awp_exit ?_; (first | show AWP _ _ _ _ _ | show loopQ _ _ _ _ _ _ | (simp only [blockQ_n]; first | show AWP _ _ _ _ _ | show loopQ _ _ _ _ _ _))) | ((first | refine walkS_end (hK _ ?_) | refine walkD_end (hK _ _ (okTrace_spec (by kernel_rfl)) ?_)); clear hK K; (first | show AWP _ _ _ _ _ | show loopQ _ _ _ _ _ _ | (simp only [blockQ_n]; first | show AWP _ _ _ _ _ | show loopQ _ _ _ _ _ _))) | ((first | refine walkS_call3 rfl rfl rfl ?_ | refine walkD_call3 rfl rfl rfl ?_); simp (maxSteps := 2000000) (disch := omega) only [go_sem, ↓reduceIte, reduceCtorEq, Nat.reduceLT, Nat.reducePow, Nat.reduceLeDiff, Nat.reduceAdd, Nat.reduceMul, Nat.reduceSub, Nat.reduceEqDiff, Nat.reduceBEq, Int.reduceToNat, Int.reduceBEq, Int.reduceBNe, ty30, ty99, ty3, ty4, un4]; (first | refine ⟨_, awake10_c, ?_⟩ | refine ⟨_, f1, ?_⟩ | refine ⟨_, f2, ?_⟩ | refine ⟨_, f3, ?_⟩ | refine ⟨_, f4, ?_⟩ | refine ⟨_, f5, ?_⟩ | refine ⟨_, f6, ?_⟩)) | ((first | refine walkS_run1 [] rfl ?_ | refine walkD_run1 [] rfl ?_); simp (maxSteps := 2000000) (disch := omega) only [go_sem, ↓reduceIte, reduceCtorEq, Nat.reduceLT, Nat.reducePow, Nat.reduceLeDiff, Nat.reduceAdd, Nat.reduceMul, Nat.reduceSub, Nat.reduceEqDiff, Nat.reduceBEq, Int.reduceToNat, Int.reduceBEq, Int.reduceBNe, ty30, ty99, ty3, ty4, un4]; (repeat (first | refine ⟨by omega, ?_⟩ | refine ⟨True.intro, ?_⟩)))))
        refine awp_ret ⟨_, ?_, rfl⟩; rw [Try.results8]; simp (disch := omega) only [ResVars, ResVar, ptrLoc, go_sem, ↓reduceIte, reduceCtorEq, Nat.reduceLT, Nat.reducePow, Nat.reduceLeDiff, Nat.reduceAdd, Nat.reduceMul, Nat.reduceSub, Nat.reduceEqDiff, Nat.reduceBEq, Int.reduceToNat, Int.reduceBEq, Int.reduceBNe, ty30, ty99, ty3, ty4, un4]
theorem inc_filter {l : List Int} (h : Inc l) (p : Int → Bool) : Inc (l.filter p) := List.Pairwise.filter p h
theorem meet_comm (a b : List Int) : meetZ a b = meetZ b a := by
  refine inc_unique (inc_filter (mkZ_inc a) _) (inc_filter (mkZ_inc b) _) fun x => ?_
  unfold meetZ
  simp only [List.mem_filter, mkZ_mem, List.contains_iff_mem]
  exact ⟨fun ⟨h, k⟩ => ⟨k, h⟩, fun ⟨h, k⟩ => ⟨k, h⟩⟩
theorem join_comm (a b : List Int) : joinZ a b = joinZ b a := by
  refine mkZ_eq (mkZ_inc _) fun x => ?_
  rw [show (x ∈ joinZ b a) = (x ∈ mkZ (b ++ a)) from rfl, mkZ_mem, List.mem_append, List.mem_append]
  exact Or.comm
theorem meet_less_join (a b : List Int) : joinZ (meetZ a b) (lessZ a b) = mkZ a := by
  refine mkZ_eq (mkZ_inc _) fun x => ?_
  unfold meetZ lessZ
  rw [List.mem_append, List.mem_filter, List.mem_filter]
  cases b.contains x <;> simp
theorem meet_less_none (a b : List Int) : meetZ (meetZ a b) (lessZ a b) = [] := by
  unfold meetZ lessZ
  refine List.filter_eq_nil_iff.2 fun x hx => ?_
  rw [mkZ_mem, List.mem_filter] at hx
  rw [List.contains_iff_mem, List.mem_filter]
  rintro ⟨_, h⟩
  rw [hx.2] at h; cases h
theorem cmpL_neg : ∀ x y : List Int, cmpL x y = -cmpL y x ∧ (cmpL x y = -1 ∨ cmpL x y = 0 ∨ cmpL x y = 1)
  | [], [] => by decide
  | [], _ :: _ => by simp only [cmpL]; decide
  | _ :: _, [] => by simp only [cmpL]; decide
  | x :: xs, y :: ys => by
    obtain ⟨h1, h2⟩ := cmpL_neg xs ys
    simp only [cmpL]
    by_cases h : x < y
    · rw [if_pos h, if_neg (by omega), if_pos h]; decide
    · rw [if_neg h]
      by_cases h' : y < x
      · rw [if_pos h', if_pos h']; decide
      · rw [if_neg h', if_neg h', if_neg h]; exact ⟨h1, h2⟩
theorem meetZ_len (a b : List Int) : (meetZ a b).length ≤ a.length := Nat.le_trans (List.length_filter_le _ _) (mkZ_len a)
theorem lessZ_len (a b : List Int) : (lessZ a b).length ≤ a.length := Nat.le_trans (List.length_filter_le _ _) (mkZ_len a)
set_option maxRecDepth 100000 in
set_option maxHeartbeats 2000000 in
theorem IdsParts_c (a b : List Int) (ha : a.length ≤ 1073741824) (hb : b.length ≤ 1073741824) : ACalls Try.prog 10 [.d (.sl 1 a.length (rowZ a)), .d (.sl 1 b.length (rowZ b))] (· = [.d (.v (.bool true))]) := by
  have l1 := meetZ_len a b
  have l2 := lessZ_len a b
  have l3 := mkZ_len a
  have l4 := mkZ_len (a ++ b)
  rw [List.length_append] at l4
  have f1 := MeetS_c a b (by omega) (by omega)
  have f2 := LessS_c a b (by omega) (by omega)
  have f3 := JoinS_c (meetZ a b) (lessZ a b) (by omega) (by omega)
  rw [meet_less_join] at f3
  have f4 := MakeS_c a (by omega)
  have f5 := Ints_c (mkZ a) (mkZ a) (by omega) (by omega)
  rw [beq_self_eq_true] at f5
  have f6 := MeetS_c (meetZ a b) (lessZ a b) (by omega) (by omega)
  rw [meet_less_none] at f6
  have f7 := MeetS_c b a (by omega) (by omega)
  rw [meet_comm b a] at f7
  have f8 := Ints_c (meetZ a b) (meetZ a b) (by omega) (by omega)
  rw [beq_self_eq_true] at f8
  have f9 := JoinS_c a b (by omega) (by omega)
  have g1 := JoinS_c b a (by omega) (by omega)
  rw [join_comm b a] at g1
  have g2 := Ints_c (joinZ a b) (joinZ a b) (by unfold joinZ; omega) (by unfold joinZ; omega)
  rw [beq_self_eq_true] at g2
  have g3 := SoundZ_c (joinZ a b) (by unfold joinZ; omega)
  rw [show soundZ (joinZ a b) = true from sound_of (mkZ_inc _)] at g3
  have g4 := CompareS_c a b (by omega) (by omega)
  have g5 := CompareS_c b a (by omega) (by omega)
  obtain ⟨n1, n2⟩ := cmpL_neg (mkZ b) (mkZ a)
  have n3 := (cmpL_neg (mkZ a) (mkZ b)).1
  rw [n3] at g4
  generalize cmpL (mkZ b) (mkZ a) = c at g4 g5 n2
  generalize meetZ a b = M at *
  generalize lessZ a b = L at *
  generalize joinZ a b = J at *
  generalize mkZ a = K at *
  rcases n2 with rfl | rfl | rfl
  all_goals
    try simp only [Int.neg_neg, Int.neg_zero] at g4
    refine acalls_of_awp Try.func10 rfl (by decide +kernel) (by rw [Try.ntmps10]; simp) ?_; rw [Try.ntmps10]; simp only [frOf]
    (repeat (first | refine awp_seq ?_ | refine awp_yes rfl ?_ | refine awp_no rfl ?_ | refine awp_block ?_ | (refine awp_region fun K hK => ?_) | (refine awp_draw (by kernel_rfl) (by kernel_rfl) fun K hK => ?_) | (refine awp_skip ?_; (first | show AWP _ _ _ _ _ | show loopQ _ _ _ _ _ _ | (simp only [blockQ_n]; first | show AWP _ _ _ _ _ | show loopQ _ _ _ _ _ _))) | (refine awp_exit ?_; (first | show AWP _ _ _ _ _ | show loopQ _ _ _ _ _ _ | (simp only [blockQ_n]; first | show AWP _ _ _ _ _ | show loopQ _ _ _ _ _ _))) | ((first | refine walkS_end (hK _ ?_) | refine walkD_end (hK _ _ (okTrace_spec (by kernel_rfl)) ?_)); clear hK K; (first | show AWP _ _ _ _ _ | show loopQ _ _ _ _ _ _ | (simp only [blockQ_n]; first | show AWP _ _ _ _ _ | show loopQ _ _ _ _ _ _))) | ((first | refine walkS_call3 rfl rfl rfl ?_ | refine walkD_call3 rfl rfl rfl ?_); simp (maxSteps := 2000000) (disch := omega) only [go_sem, ↓reduceIte, reduceCtorEq, Nat.reduceLT, Nat.reducePow, Nat.reduceLeDiff, Nat.reduceAdd, Nat.reduceMul, Nat.reduceSub, Nat.reduceEqDiff, Nat.reduceBEq, Int.reduceToNat, Int.reduceBEq, Int.reduceBNe, ty30, ty99, ty3, ty4, un4]; (first | refine ⟨_, awake10_c, ?_⟩ | refine ⟨_, f1, ?_⟩ | refine ⟨_, f2, ?_⟩ | refine ⟨_, f3, ?_⟩ | refine ⟨_, f4, ?_⟩ | refine ⟨_, f5, ?_⟩ | refine ⟨_, f6, ?_⟩ | refine ⟨_, f7, ?_⟩ | refine ⟨_, f8, ?_⟩ | refine ⟨_, f9, ?_⟩ | refine ⟨_, g1, ?_⟩ | refine ⟨_, g2, ?_⟩ | refine ⟨_, g3, ?_⟩ | refine ⟨_, g4, ?_⟩ | refine ⟨_, g5, ?_⟩)) | ((first | refine walkS_run1 [] rfl ?_ | refine walkD_run1 [] rfl ?_); simp (maxSteps := 2000000) (disch := omega) only [go_sem, ↓reduceIte, reduceCtorEq, Nat.reduceLT, Nat.reducePow, Nat.reduceLeDiff, Nat.reduceAdd, Nat.reduceMul, Nat.reduceSub, Nat.reduceEqDiff, Nat.reduceBEq, Int.reduceToNat, Int.reduceBEq, Int.reduceBNe, ty30, ty99, ty3, ty4, un4]; (repeat (first | refine ⟨by omega, ?_⟩ | refine ⟨True.intro, ?_⟩)))))
    refine awp_ret ⟨_, ?_, rfl⟩; rw [Try.results10]; simp (disch := omega) only [ResVars, ResVar, ptrLoc, go_sem, ↓reduceIte, reduceCtorEq, Nat.reduceLT, Nat.reducePow, Nat.reduceLeDiff, Nat.reduceAdd, Nat.reduceMul, Nat.reduceSub, Nat.reduceEqDiff, Nat.reduceBEq, Int.reduceToNat, Int.reduceBEq, Int.reduceBNe, ty30, ty99, ty3, ty4, un4]
    rfl
theorem contains_fun (b : List Int) : (fun x => (mkZ b).contains x) = fun x => b.contains x := funext fun x => mkZ_contains b x
def meetsI (x y : List Int) (a b : List Int) (s : {s : Nat × List Int × List Int // s.1 ≤ x.length ∧ s.2.1 = (x.take s.1).filter (fun z => y.contains z) ∧ s.2.2 = (x.take s.1).filter (fun z => !y.contains z)}) : ASt :=
  ⟨[(9, .p (.d (.v (.int .i64 (s.val.1 : Int))))), (8, .gr 26 s.val.2.2.length 1 s.val.2.2.length (rowZ s.val.2.2)), (7, .gr 25 s.val.2.1.length 1 s.val.2.1.length (rowZ s.val.2.1)), (6, .p (.d (.sl 1 y.length (rowZ y)))), (5, .p (.d (.sl 1 x.length (rowZ x)))), (1, .p (.d (.sl 1 b.length (rowZ b)))), (0, .p (.d (.sl 1 a.length (rowZ a))))],
   [(26, .grow 3 1 s.val.2.2.length s.val.2.2.length), (25, .grow 3 1 s.val.2.1.length s.val.2.1.length)]⟩
def meetsJ (x y m l : List Int) (a b : List Int) (R : Int) (s : {s : Nat × Int // s.1 ≤ x.length ∧ s.1 ≤ y.length ∧ ((s.2 = 0 ∧ cmpL (x.drop s.1) (y.drop s.1) = R) ∨ (s.2 ≠ 0 ∧ s.2 = R))}) : ASt :=
  ⟨[(11, .p (.d (.v (.int .i64 (s.val.1 : Int))))), (10, .p (.d (.v (.int .i64 s.val.2)))), (8, .p (.d (.sl 1 l.length (rowZ l)))), (7, .p (.d (.sl 1 m.length (rowZ m)))), (6, .p (.d (.sl 1 y.length (rowZ y)))), (5, .p (.d (.sl 1 x.length (rowZ x)))), (1, .p (.d (.sl 1 b.length (rowZ b)))), (0, .p (.d (.sl 1 a.length (rowZ a))))], []⟩
set_option maxRecDepth 100000 in
set_option maxHeartbeats 2000000 in
theorem IdsMeets_c (a b : List Int) (ha : a.length ≤ 1073741824) (hb : b.length ≤ 1073741824) : ACalls Try.prog 9 [.d (.sl 1 a.length (rowZ a)), .d (.sl 1 b.length (rowZ b))] (· = [.d (.v (.bool true))]) := by
  by_cases hA : a.length ≤ 200
  · by_cases hB : b.length ≤ 200
    · have f1 := SetS_c a (by omega)
      have f2 := SetS_c b (by omega)
      have l1 := mkZ_len a
      have l2 := mkZ_len b
      have m1 := MeetS_c a b (by omega) (by omega)
      have m2 := LessS_c a b (by omega) (by omega)
      have j1 := JoinS_c a b (by omega) (by omega)
      have c1 := CompareS_c a b (by omega) (by omega)
      have e1 : meetZ a b = (mkZ a).filter (fun z => (mkZ b).contains z) := by unfold meetZ; rw [contains_fun]
      have e2 : lessZ a b = (mkZ a).filter (fun z => !(mkZ b).contains z) := by
        unfold lessZ
        congr 1
        exact funext fun z => by rw [mkZ_contains]
      rw [e1] at m1
      rw [e2] at m2
      have fS := acalls_le (.cons (ple_sl (f := catF a.length (catF 0 (fun _ => []) (rowZ a)) (rowZ b)) (show a.length + b.length = (a ++ b).length from List.length_append.symm) (fun i _ => by
        rw [show catF 0 (fun _ => []) (rowZ a) = rowZ a from funext fun i => by unfold catF; rw [if_neg (by omega)]; rfl]
        exact rowZ_cat a b i)) .nil) (SetS_c (a ++ b) (by rw [List.length_append]; omega))
      have l4 := mkZ_len (a ++ b)
      rw [List.length_append] at l4
      unfold joinZ at j1
      generalize mkZ (a ++ b) = J at j1 fS l4
      have i1 := Ints_c J J (by omega) (by omega)
      rw [beq_self_eq_true] at i1
      generalize mkZ a = x at f1 l1 m1 m2 c1
      generalize mkZ b = y at f2 l2 m1 m2 c1
      generalize hR : cmpL x y = R at c1
      refine acalls_of_awp Try.func9 rfl (by decide +kernel) (by rw [Try.ntmps9]; simp) ?_; rw [Try.ntmps9]; simp only [frOf]
      (repeat (first | refine awp_seq ?_ | refine awp_yes rfl ?_ | refine awp_no rfl ?_ | refine awp_block ?_ | (refine awp_region fun K hK => ?_) | (refine awp_draw (by kernel_rfl) (by kernel_rfl) fun K hK => ?_) | (refine awp_skip ?_; (first | show AWP _ _ _ _ _ | show loopQ _ _ _ _ _ _ | (simp only [blockQ_n]; first | show AWP _ _ _ _ _ | show loopQ _ _ _ _ _ _))) | (refine awp_exit ?_; (first | show AWP _ _ _ _ _ | show loopQ _ _ _ _ _ _ | (simp only [blockQ_n]; first | show AWP _ _ _ _ _ | show loopQ _ _ _ _ _ _))) | ((first | refine walkS_end (hK _ ?_) | refine walkD_end (hK _ _ (okTrace_spec (by kernel_rfl)) ?_)); clear hK K; (first | show AWP _ _ _ _ _ | show loopQ _ _ _ _ _ _ | (simp only [blockQ_n]; first | show AWP _ _ _ _ _ | show loopQ _ _ _ _ _ _))) | ((first | refine walkS_call3 rfl rfl rfl ?_ | refine walkD_call3 rfl rfl rfl ?_); simp (maxSteps := 2000000) (disch := omega) only [go_sem, ↓reduceIte, reduceCtorEq, Nat.reduceLT, Nat.reducePow, Nat.reduceLeDiff, Nat.reduceAdd, Nat.reduceMul, Nat.reduceSub, Nat.reduceEqDiff, Nat.reduceBEq, Int.reduceToNat, Int.reduceBEq, Int.reduceBNe, ty30, ty99, ty3, ty4, un4]; (first | refine ⟨_, f1, ?_⟩ | refine ⟨_, f2, ?_⟩)) | ((first | refine walkS_run1 [25,26,110] rfl ?_ | refine walkD_run1 [25,26,110] rfl ?_); simp (maxSteps := 2000000) (disch := omega) only [go_sem, ↓reduceIte, reduceCtorEq, Nat.reduceLT, Nat.reducePow, Nat.reduceLeDiff, Nat.reduceAdd, Nat.reduceMul, Nat.reduceSub, Nat.reduceEqDiff, Nat.reduceBEq, Int.reduceToNat, Int.reduceBEq, Int.reduceBNe, ty30, ty99, ty3, ty4, un4]; (repeat (first | refine ⟨by omega, ?_⟩ | refine ⟨True.intro, ?_⟩)))))
      refine awp_loop (meetsI x y a b) (fun s => x.length - s.val.1) ⟨(0, [], []), by simp, by simp, by simp⟩ ?_ (fun s => ?_)
      · unfold meetsI
        refine Weak.list ?_ ?_; (all_goals simp (disch := omega) only [AllF, AllL, le_self, le_top, lle_self, exists_eq_left', Option.some.injEq, go_sem, ↓reduceIte, reduceCtorEq, Nat.reduceLT, Nat.reducePow, Nat.reduceLeDiff, Nat.reduceAdd, Nat.reduceMul, Nat.reduceSub, Nat.reduceEqDiff, Nat.reduceBEq, Int.reduceToNat, Int.reduceBEq, Int.reduceBNe, ty30, ty99, ty3, ty4, un4]); (all_goals (repeat' (with_reducible apply And.intro))); (all_goals try (first | exact le_eq rfl | (refine le_int ?_; omega) | (refine le_eq ?_; simp; done)))
        · exact le_grgr rfl rfl (fun k hk => by omega)
        · exact le_grgr rfl rfl (fun k hk => by omega)
      obtain ⟨⟨i, m, l⟩, hi, hm, hl⟩ := s
      unfold meetsI
      simp only [] at hi hm hl ⊢
      have ml : m.length ≤ x.length := by rw [hm]; exact Nat.le_trans (List.length_filter_le _ _) (by simp; omega)
      have ll : l.length ≤ x.length := by rw [hl]; exact Nat.le_trans (List.length_filter_le _ _) (by simp; omega)
      by_cases h : i < x.length
      · have r1 := rowZ_at x i
        have st := take_succ_getD x i 0 h
        generalize x.getD i 0 = z at r1 st
        have hc := hasL_c y z (by omega)
        have sm : (x.take (i + 1)).filter (fun z => y.contains z) = m ++ if y.contains z then [z] else [] := by
          rw [st, List.filter_append, ← hm]
          cases hq : y.contains z <;> simp only [List.filter_cons, List.filter_nil, hq, Bool.false_eq_true, if_false, if_true, Bool.not_true, Bool.not_false]
        have sl : (x.take (i + 1)).filter (fun z => !y.contains z) = l ++ if y.contains z then [] else [z] := by
          rw [st, List.filter_append, ← hl]
          cases hq : y.contains z <;> simp only [List.filter_cons, List.filter_nil, hq, Bool.false_eq_true, if_false, if_true, Bool.not_true, Bool.not_false]
        generalize y.contains z = c at hc sm sl
        cases c
        all_goals
          simp only [Bool.false_eq_true, if_false, if_true, List.append_nil] at sm sl
          (repeat (first | refine awp_seq ?_ | refine awp_yes rfl ?_ | refine awp_no rfl ?_ | refine awp_block ?_ | (refine awp_region fun K hK => ?_) | (refine awp_draw (by kernel_rfl) (by kernel_rfl) fun K hK => ?_) | (refine awp_skip ?_; (first | show AWP _ _ _ _ _ | show loopQ _ _ _ _ _ _ | (simp only [blockQ_n]; first | show AWP _ _ _ _ _ | show loopQ _ _ _ _ _ _))) | (refine awp_exit ?_; (first | show AWP _ _ _ _ _ | show loopQ _ _ _ _ _ _ | (simp only [blockQ_n]; first | show AWP _ _ _ _ _ | show loopQ _ _ _ _ _ _))) | ((first | refine walkS_end (hK _ ?_) | refine walkD_end (hK _ _ (okTrace_spec (by kernel_rfl)) ?_)); clear hK K; (first | show AWP _ _ _ _ _ | show loopQ _ _ _ _ _ _ | (simp only [blockQ_n]; first | show AWP _ _ _ _ _ | show loopQ _ _ _ _ _ _))) | ((first | refine walkS_call3 rfl rfl rfl ?_ | refine walkD_call3 rfl rfl rfl ?_); simp (maxSteps := 2000000) (disch := omega) only [go_sem, ↓reduceIte, reduceCtorEq, Nat.reduceLT, Nat.reducePow, Nat.reduceLeDiff, Nat.reduceAdd, Nat.reduceMul, Nat.reduceSub, Nat.reduceEqDiff, Nat.reduceBEq, Int.reduceToNat, Int.reduceBEq, Int.reduceBNe, ty30, ty99, ty3, ty4, un4, r1]; (first | refine ⟨_, hc, ?_⟩)) | ((first | refine walkS_run1 [25,26,110] rfl ?_ | refine walkD_run1 [25,26,110] rfl ?_); simp (maxSteps := 2000000) (disch := omega) only [go_sem, ↓reduceIte, reduceCtorEq, Nat.reduceLT, Nat.reducePow, Nat.reduceLeDiff, Nat.reduceAdd, Nat.reduceMul, Nat.reduceSub, Nat.reduceEqDiff, Nat.reduceBEq, Int.reduceToNat, Int.reduceBEq, Int.reduceBNe, ty30, ty99, ty3, ty4, un4, r1]; (repeat (first | refine ⟨by omega, ?_⟩ | refine ⟨True.intro, ?_⟩)))))
        · refine ⟨⟨(i + 1, m, l ++ [z]), by simp only []; omega, sm.symm, sl.symm⟩, by simp only []; omega, ?_⟩
          refine Weak.list ?_ ?_; (all_goals simp (disch := omega) only [AllF, AllL, le_self, le_top, lle_self, exists_eq_left', Option.some.injEq, go_sem, ↓reduceIte, reduceCtorEq, Nat.reduceLT, Nat.reducePow, Nat.reduceLeDiff, Nat.reduceAdd, Nat.reduceMul, Nat.reduceSub, Nat.reduceEqDiff, Nat.reduceBEq, Int.reduceToNat, Int.reduceBEq, Int.reduceBNe, ty30, ty99, ty3, ty4, un4, r1]); (all_goals (repeat' (with_reducible apply And.intro))); (all_goals try (first | exact le_eq rfl | (refine le_int ?_; omega) | (refine le_eq ?_; simp; done)))
          · exact le_grgr (by simp) (by simp) (fun k hk => rowZ_put l z k hk)
          · exact lle_grow (by simp) (by simp)
        · refine ⟨⟨(i + 1, m ++ [z], l), by simp only []; omega, sm.symm, sl.symm⟩, by simp only []; omega, ?_⟩
          refine Weak.list ?_ ?_; (all_goals simp (disch := omega) only [AllF, AllL, le_self, le_top, lle_self, exists_eq_left', Option.some.injEq, go_sem, ↓reduceIte, reduceCtorEq, Nat.reduceLT, Nat.reducePow, Nat.reduceLeDiff, Nat.reduceAdd, Nat.reduceMul, Nat.reduceSub, Nat.reduceEqDiff, Nat.reduceBEq, Int.reduceToNat, Int.reduceBEq, Int.reduceBNe, ty30, ty99, ty3, ty4, un4, r1]); (all_goals (repeat' (with_reducible apply And.intro))); (all_goals try (first | exact le_eq rfl | (refine le_int ?_; omega) | (refine le_eq ?_; simp; done)))
          · exact le_grgr (by simp) (by simp) (fun k hk => rowZ_put m z k hk)
          · exact lle_grow (by simp) (by simp)
      have : i = x.length := by omega
      subst this
      rw [List.take_length] at hm hl
      rw [← hm] at m1
      rw [← hl] at m2
      have i2 := Ints_c m m (by omega) (by omega)
      have i3 := Ints_c l l (by omega) (by omega)
      rw [beq_self_eq_true] at i2 i3
      (repeat ((fail_if_success (show AWP _ _ (.region 12 _ _) _ _)); first | refine awp_seq ?_ | refine awp_yes rfl ?_ | refine awp_no rfl ?_ | refine awp_block ?_ | (refine awp_region fun K hK => ?_) | (refine awp_draw (by kernel_rfl) (by kernel_rfl) fun K hK => ?_) | (refine awp_skip ?_; (first | show AWP _ _ _ _ _ | show loopQ _ _ _ _ _ _ | (simp only [blockQ_n]; first | show AWP _ _ _ _ _ | show loopQ _ _ _ _ _ _))) | (refine awp_exit ?_; (first | show AWP _ _ _ _ _ | show loopQ _ _ _ _ _ _ | (simp only [blockQ_n]; first | show AWP _ _ _ _ _ | show loopQ _ _ _ _ _ _))) | ((first | refine walkS_end (hK _ ?_) | refine walkD_end (hK _ _ (okTrace_spec (by kernel_rfl)) ?_)); clear hK K; (first | show AWP _ _ _ _ _ | show loopQ _ _ _ _ _ _ | (simp only [blockQ_n]; first | show AWP _ _ _ _ _ | show loopQ _ _ _ _ _ _))) | ((first | refine walkS_run1 [25,26,110] rfl ?_ | refine walkD_run1 [25,26,110] rfl ?_); simp (maxSteps := 2000000) (disch := omega) only [go_sem, ↓reduceIte, reduceCtorEq, Nat.reduceLT, Nat.reducePow, Nat.reduceLeDiff, Nat.reduceAdd, Nat.reduceMul, Nat.reduceSub, Nat.reduceEqDiff, Nat.reduceBEq, Int.reduceToNat, Int.reduceBEq, Int.reduceBNe, ty30, ty99, ty3, ty4, un4]; (repeat (first | refine ⟨by omega, ?_⟩ | refine ⟨True.intro, ?_⟩)))))
      refine awp_slot 7 _ (.p (.d (.sl 1 m.length (rowZ m)))) rfl (le_gr rfl (fun i hi => rfl)) ?_
      refine awp_slot 8 _ (.p (.d (.sl 1 l.length (rowZ l)))) rfl (le_gr rfl (fun i hi => rfl)) ?_
      (repeat (first | refine awp_seq ?_ | refine awp_yes rfl ?_ | refine awp_no rfl ?_ | refine awp_block ?_ | (refine awp_region fun K hK => ?_) | (refine awp_draw (by kernel_rfl) (by kernel_rfl) fun K hK => ?_) | (refine awp_skip ?_; (first | show AWP _ _ _ _ _ | show loopQ _ _ _ _ _ _ | (simp only [blockQ_n]; first | show AWP _ _ _ _ _ | show loopQ _ _ _ _ _ _))) | (refine awp_exit ?_; (first | show AWP _ _ _ _ _ | show loopQ _ _ _ _ _ _ | (simp only [blockQ_n]; first | show AWP _ _ _ _ _ | show loopQ _ _ _ _ _ _))) | ((first | refine walkS_end (hK _ ?_) | refine walkD_end (hK _ _ (okTrace_spec (by kernel_rfl)) ?_)); clear hK K; (first | show AWP _ _ _ _ _ | show loopQ _ _ _ _ _ _ | (simp only [blockQ_n]; first | show AWP _ _ _ _ _ | show loopQ _ _ _ _ _ _))) | ((first | refine walkS_run1 [25,26,110] rfl ?_ | refine walkD_run1 [25,26,110] rfl ?_); simp (maxSteps := 2000000) (disch := omega) only [go_sem, ↓reduceIte, reduceCtorEq, Nat.reduceLT, Nat.reducePow, Nat.reduceLeDiff, Nat.reduceAdd, Nat.reduceMul, Nat.reduceSub, Nat.reduceEqDiff, Nat.reduceBEq, Int.reduceToNat, Int.reduceBEq, Int.reduceBNe, ty30, ty99, ty3, ty4, un4]; (repeat (first | refine ⟨by omega, ?_⟩ | refine ⟨True.intro, ?_⟩)))))
      refine awp_loop (meetsJ x y m l a b R) (fun s => x.length - s.val.1) ⟨(0, 0), Nat.zero_le _, Nat.zero_le _, .inl ⟨rfl, hR⟩⟩ ?_ (fun s => ?_)
      · unfold meetsJ
        refine Weak.list ?_ ?_; (all_goals simp (disch := omega) only [AllF, AllL, le_self, le_top, lle_self, exists_eq_left', Option.some.injEq, go_sem, ↓reduceIte, reduceCtorEq, Nat.reduceLT, Nat.reducePow, Nat.reduceLeDiff, Nat.reduceAdd, Nat.reduceMul, Nat.reduceSub, Nat.reduceEqDiff, Nat.reduceBEq, Int.reduceToNat, Int.reduceBEq, Int.reduceBNe, ty30, ty99, ty3, ty4, un4]); (all_goals (repeat' (with_reducible apply And.intro))); (all_goals try (first | exact le_eq rfl | (refine le_int ?_; omega) | (refine le_eq ?_; simp; done)))
      clear hm hl hi
      obtain ⟨⟨i, o⟩, hi, hi2, hs⟩ := s
      unfold meetsJ
      simp only [] at hi hi2 hs ⊢
      rcases hs with ⟨ho, hs⟩ | ⟨ho, hs⟩
      · subst ho
        by_cases h1 : i < x.length
        · by_cases h2 : i < y.length
          · have st := cmpL_at h1 h2
            rw [hs] at st
            have r1 := rowZ_at x i
            have r2 := rowZ_at y i
            generalize x.getD i 0 = u at r1 st
            generalize y.getD i 0 = v at r2 st
            unfold cmpZ at st
            by_cases q1 : u < v
            · rw [if_pos q1] at st
              have q2 : ¬ v < u := by omega
              (repeat (first | refine awp_seq ?_ | refine awp_yes rfl ?_ | refine awp_no rfl ?_ | refine awp_block ?_ | (refine awp_region fun K hK => ?_) | (refine awp_draw (by kernel_rfl) (by kernel_rfl) fun K hK => ?_) | (refine awp_skip ?_; (first | show AWP _ _ _ _ _ | show loopQ _ _ _ _ _ _ | (simp only [blockQ_n]; first | show AWP _ _ _ _ _ | show loopQ _ _ _ _ _ _))) | (refine awp_exit ?_; (first | show AWP _ _ _ _ _ | show loopQ _ _ _ _ _ _ | (simp only [blockQ_n]; first | show AWP _ _ _ _ _ | show loopQ _ _ _ _ _ _))) | ((first | refine walkS_end (hK _ ?_) | refine walkD_end (hK _ _ (okTrace_spec (by kernel_rfl)) ?_)); clear hK K; (first | show AWP _ _ _ _ _ | show loopQ _ _ _ _ _ _ | (simp only [blockQ_n]; first | show AWP _ _ _ _ _ | show loopQ _ _ _ _ _ _))) | ((first | refine walkS_run1 [25,26,110] rfl ?_ | refine walkD_run1 [25,26,110] rfl ?_); simp (maxSteps := 2000000) (disch := omega) only [go_sem, ↓reduceIte, reduceCtorEq, Nat.reduceLT, Nat.reducePow, Nat.reduceLeDiff, Nat.reduceAdd, Nat.reduceMul, Nat.reduceSub, Nat.reduceEqDiff, Nat.reduceBEq, Int.reduceToNat, Int.reduceBEq, Int.reduceBNe, ty30, ty99, ty3, ty4, un4, r1, r2]; (repeat (first | refine ⟨by omega, ?_⟩ | refine ⟨True.intro, ?_⟩)))))
              refine ⟨⟨(i + 1, -1), by simp only []; omega, by simp only []; omega, .inr ⟨(show (-1 : Int) ≠ 0 by decide), st.symm⟩⟩, by simp only []; omega, ?_⟩
              refine Weak.list ?_ ?_; (all_goals simp (disch := omega) only [AllF, AllL, le_self, le_top, lle_self, exists_eq_left', Option.some.injEq, go_sem, ↓reduceIte, reduceCtorEq, Nat.reduceLT, Nat.reducePow, Nat.reduceLeDiff, Nat.reduceAdd, Nat.reduceMul, Nat.reduceSub, Nat.reduceEqDiff, Nat.reduceBEq, Int.reduceToNat, Int.reduceBEq, Int.reduceBNe, ty30, ty99, ty3, ty4, un4, r1, r2]); (all_goals (repeat' (with_reducible apply And.intro))); (all_goals try (first | exact le_eq rfl | (refine le_int ?_; omega) | (refine le_eq ?_; simp; done)))
            · rw [if_neg q1] at st
              by_cases q2 : v < u
              · rw [if_pos q2] at st
                (repeat (first | refine awp_seq ?_ | refine awp_yes rfl ?_ | refine awp_no rfl ?_ | refine awp_block ?_ | (refine awp_region fun K hK => ?_) | (refine awp_draw (by kernel_rfl) (by kernel_rfl) fun K hK => ?_) | (refine awp_skip ?_; (first | show AWP _ _ _ _ _ | show loopQ _ _ _ _ _ _ | (simp only [blockQ_n]; first | show AWP _ _ _ _ _ | show loopQ _ _ _ _ _ _))) | (refine awp_exit ?_; (first | show AWP _ _ _ _ _ | show loopQ _ _ _ _ _ _ | (simp only [blockQ_n]; first | show AWP _ _ _ _ _ | show loopQ _ _ _ _ _ _))) | ((first | refine walkS_end (hK _ ?_) | refine walkD_end (hK _ _ (okTrace_spec (by kernel_rfl)) ?_)); clear hK K; (first | show AWP _ _ _ _ _ | show loopQ _ _ _ _ _ _ | (simp only [blockQ_n]; first | show AWP _ _ _ _ _ | show loopQ _ _ _ _ _ _))) | ((first | refine walkS_run1 [25,26,110] rfl ?_ | refine walkD_run1 [25,26,110] rfl ?_); simp (maxSteps := 2000000) (disch := omega) only [go_sem, ↓reduceIte, reduceCtorEq, Nat.reduceLT, Nat.reducePow, Nat.reduceLeDiff, Nat.reduceAdd, Nat.reduceMul, Nat.reduceSub, Nat.reduceEqDiff, Nat.reduceBEq, Int.reduceToNat, Int.reduceBEq, Int.reduceBNe, ty30, ty99, ty3, ty4, un4, r1, r2]; (repeat (first | refine ⟨by omega, ?_⟩ | refine ⟨True.intro, ?_⟩)))))
                refine ⟨⟨(i + 1, 1), by simp only []; omega, by simp only []; omega, .inr ⟨(show (1 : Int) ≠ 0 by decide), st.symm⟩⟩, by simp only []; omega, ?_⟩
                refine Weak.list ?_ ?_; (all_goals simp (disch := omega) only [AllF, AllL, le_self, le_top, lle_self, exists_eq_left', Option.some.injEq, go_sem, ↓reduceIte, reduceCtorEq, Nat.reduceLT, Nat.reducePow, Nat.reduceLeDiff, Nat.reduceAdd, Nat.reduceMul, Nat.reduceSub, Nat.reduceEqDiff, Nat.reduceBEq, Int.reduceToNat, Int.reduceBEq, Int.reduceBNe, ty30, ty99, ty3, ty4, un4, r1, r2]); (all_goals (repeat' (with_reducible apply And.intro))); (all_goals try (first | exact le_eq rfl | (refine le_int ?_; omega) | (refine le_eq ?_; simp; done)))
              · rw [if_neg q2, if_pos rfl] at st
                (repeat (first | refine awp_seq ?_ | refine awp_yes rfl ?_ | refine awp_no rfl ?_ | refine awp_block ?_ | (refine awp_region fun K hK => ?_) | (refine awp_draw (by kernel_rfl) (by kernel_rfl) fun K hK => ?_) | (refine awp_skip ?_; (first | show AWP _ _ _ _ _ | show loopQ _ _ _ _ _ _ | (simp only [blockQ_n]; first | show AWP _ _ _ _ _ | show loopQ _ _ _ _ _ _))) | (refine awp_exit ?_; (first | show AWP _ _ _ _ _ | show loopQ _ _ _ _ _ _ | (simp only [blockQ_n]; first | show AWP _ _ _ _ _ | show loopQ _ _ _ _ _ _))) | ((first | refine walkS_end (hK _ ?_) | refine walkD_end (hK _ _ (okTrace_spec (by kernel_rfl)) ?_)); clear hK K; (first | show AWP _ _ _ _ _ | show loopQ _ _ _ _ _ _ | (simp only [blockQ_n]; first | show AWP _ _ _ _ _ | show loopQ _ _ _ _ _ _))) | ((first | refine walkS_run1 [25,26,110] rfl ?_ | refine walkD_run1 [25,26,110] rfl ?_); simp (maxSteps := 2000000) (disch := omega) only [go_sem, ↓reduceIte, reduceCtorEq, Nat.reduceLT, Nat.reducePow, Nat.reduceLeDiff, Nat.reduceAdd, Nat.reduceMul, Nat.reduceSub, Nat.reduceEqDiff, Nat.reduceBEq, Int.reduceToNat, Int.reduceBEq, Int.reduceBNe, ty30, ty99, ty3, ty4, un4, r1, r2]; (repeat (first | refine ⟨by omega, ?_⟩ | refine ⟨True.intro, ?_⟩)))))
                refine ⟨⟨(i + 1, 0), by simp only []; omega, by simp only []; omega, .inl ⟨rfl, st.symm⟩⟩, by simp only []; omega, ?_⟩
                refine Weak.list ?_ ?_; (all_goals simp (disch := omega) only [AllF, AllL, le_self, le_top, lle_self, exists_eq_left', Option.some.injEq, go_sem, ↓reduceIte, reduceCtorEq, Nat.reduceLT, Nat.reducePow, Nat.reduceLeDiff, Nat.reduceAdd, Nat.reduceMul, Nat.reduceSub, Nat.reduceEqDiff, Nat.reduceBEq, Int.reduceToNat, Int.reduceBEq, Int.reduceBNe, ty30, ty99, ty3, ty4, un4, r1, r2]); (all_goals (repeat' (with_reducible apply And.intro))); (all_goals try (first | exact le_eq rfl | (refine le_int ?_; omega) | (refine le_eq ?_; simp; done)))
          · have e : R = 1 := by
              rw [← hs, drop_getD x i 0 h1, List.drop_eq_nil_of_le (show y.length ≤ i by omega)]; rfl
            subst e
            (repeat (first | refine awp_seq ?_ | refine awp_yes rfl ?_ | refine awp_no rfl ?_ | refine awp_block ?_ | (refine awp_region fun K hK => ?_) | (refine awp_draw (by kernel_rfl) (by kernel_rfl) fun K hK => ?_) | (refine awp_skip ?_; (first | show AWP _ _ _ _ _ | show loopQ _ _ _ _ _ _ | (simp only [blockQ_n]; first | show AWP _ _ _ _ _ | show loopQ _ _ _ _ _ _))) | (refine awp_exit ?_; (first | show AWP _ _ _ _ _ | show loopQ _ _ _ _ _ _ | (simp only [blockQ_n]; first | show AWP _ _ _ _ _ | show loopQ _ _ _ _ _ _))) | ((first | refine walkS_end (hK _ ?_) | refine walkD_end (hK _ _ (okTrace_spec (by kernel_rfl)) ?_)); clear hK K; (first | show AWP _ _ _ _ _ | show loopQ _ _ _ _ _ _ | (simp only [blockQ_n]; first | show AWP _ _ _ _ _ | show loopQ _ _ _ _ _ _))) | ((first | refine walkS_call3 rfl rfl rfl ?_ | refine walkD_call3 rfl rfl rfl ?_); simp (maxSteps := 2000000) (disch := omega) only [go_sem, ↓reduceIte, reduceCtorEq, Nat.reduceLT, Nat.reducePow, Nat.reduceLeDiff, Nat.reduceAdd, Nat.reduceMul, Nat.reduceSub, Nat.reduceEqDiff, Nat.reduceBEq, Int.reduceToNat, Int.reduceBEq, Int.reduceBNe, ty30, ty99, ty3, ty4, un4]; (first | refine ⟨_, awake10_c, ?_⟩ | refine ⟨_, j1, ?_⟩ | refine ⟨_, fS, ?_⟩ | refine ⟨_, i1, ?_⟩ | refine ⟨_, i2, ?_⟩ | refine ⟨_, i3, ?_⟩ | refine ⟨_, m1, ?_⟩ | refine ⟨_, m2, ?_⟩ | refine ⟨_, c1, ?_⟩)) | ((first | refine walkS_run1 [25,26,110] rfl ?_ | refine walkD_run1 [25,26,110] rfl ?_); simp (maxSteps := 2000000) (disch := omega) only [go_sem, ↓reduceIte, reduceCtorEq, Nat.reduceLT, Nat.reducePow, Nat.reduceLeDiff, Nat.reduceAdd, Nat.reduceMul, Nat.reduceSub, Nat.reduceEqDiff, Nat.reduceBEq, Int.reduceToNat, Int.reduceBEq, Int.reduceBNe, ty30, ty99, ty3, ty4, un4]; (repeat (first | refine ⟨by omega, ?_⟩ | refine ⟨True.intro, ?_⟩)))))
            refine awp_ret ⟨_, ?_, rfl⟩; rw [Try.results9]; simp (disch := omega) only [ResVars, ResVar, ptrLoc, go_sem, ↓reduceIte, reduceCtorEq, Nat.reduceLT, Nat.reducePow, Nat.reduceLeDiff, Nat.reduceAdd, Nat.reduceMul, Nat.reduceSub, Nat.reduceEqDiff, Nat.reduceBEq, Int.reduceToNat, Int.reduceBEq, Int.reduceBNe, ty30, ty99, ty3, ty4, un4]
        · by_cases h2 : i < y.length
          · have e : R = -1 := by
              rw [← hs, drop_getD y i 0 h2, List.drop_eq_nil_of_le (show x.length ≤ i by omega)]; rfl
            subst e
            (repeat (first | refine awp_seq ?_ | refine awp_yes rfl ?_ | refine awp_no rfl ?_ | refine awp_block ?_ | (refine awp_region fun K hK => ?_) | (refine awp_draw (by kernel_rfl) (by kernel_rfl) fun K hK => ?_) | (refine awp_skip ?_; (first | show AWP _ _ _ _ _ | show loopQ _ _ _ _ _ _ | (simp only [blockQ_n]; first | show AWP _ _ _ _ _ | show loopQ _ _ _ _ _ _))) | (refine awp_exit ?_; (first | show AWP _ _ _ _ _ | show loopQ _ _ _ _ _ _ | (simp only [blockQ_n]; first | show AWP _ _ _ _ _ | show loopQ _ _ _ _ _ _))) | ((first | refine walkS_end (hK _ ?_) | refine walkD_end (hK _ _ (okTrace_spec (by kernel_rfl)) ?_)); clear hK K; (first | show AWP _ _ _ _ _ | show loopQ _ _ _ _ _ _ | (simp only [blockQ_n]; first | show AWP _ _ _ _ _ | show loopQ _ _ _ _ _ _))) | ((first | refine walkS_call3 rfl rfl rfl ?_ | refine walkD_call3 rfl rfl rfl ?_); simp (maxSteps := 2000000) (disch := omega) only [go_sem, ↓reduceIte, reduceCtorEq, Nat.reduceLT, Nat.reducePow, Nat.reduceLeDiff, Nat.reduceAdd, Nat.reduceMul, Nat.reduceSub, Nat.reduceEqDiff, Nat.reduceBEq, Int.reduceToNat, Int.reduceBEq, Int.reduceBNe, ty30, ty99, ty3, ty4, un4]; (first | refine ⟨_, awake10_c, ?_⟩ | refine ⟨_, j1, ?_⟩ | refine ⟨_, fS, ?_⟩ | refine ⟨_, i1, ?_⟩ | refine ⟨_, i2, ?_⟩ | refine ⟨_, i3, ?_⟩ | refine ⟨_, m1, ?_⟩ | refine ⟨_, m2, ?_⟩ | refine ⟨_, c1, ?_⟩)) | ((first | refine walkS_run1 [25,26,110] rfl ?_ | refine walkD_run1 [25,26,110] rfl ?_); simp (maxSteps := 2000000) (disch := omega) only [go_sem, ↓reduceIte, reduceCtorEq, Nat.reduceLT, Nat.reducePow, Nat.reduceLeDiff, Nat.reduceAdd, Nat.reduceMul, Nat.reduceSub, Nat.reduceEqDiff, Nat.reduceBEq, Int.reduceToNat, Int.reduceBEq, Int.reduceBNe, ty30, ty99, ty3, ty4, un4]; (repeat (first | refine ⟨by omega, ?_⟩ | refine ⟨True.intro, ?_⟩)))))
            refine awp_ret ⟨_, ?_, rfl⟩; rw [Try.results9]; simp (disch := omega) only [ResVars, ResVar, ptrLoc, go_sem, ↓reduceIte, reduceCtorEq, Nat.reduceLT, Nat.reducePow, Nat.reduceLeDiff, Nat.reduceAdd, Nat.reduceMul, Nat.reduceSub, Nat.reduceEqDiff, Nat.reduceBEq, Int.reduceToNat, Int.reduceBEq, Int.reduceBNe, ty30, ty99, ty3, ty4, un4]
          · have e : R = 0 := by
              rw [← hs, List.drop_eq_nil_of_le (show x.length ≤ i by omega), List.drop_eq_nil_of_le (show y.length ≤ i by omega)]; rfl
            subst e
            (repeat (first | refine awp_seq ?_ | refine awp_yes rfl ?_ | refine awp_no rfl ?_ | refine awp_block ?_ | (refine awp_region fun K hK => ?_) | (refine awp_draw (by kernel_rfl) (by kernel_rfl) fun K hK => ?_) | (refine awp_skip ?_; (first | show AWP _ _ _ _ _ | show loopQ _ _ _ _ _ _ | (simp only [blockQ_n]; first | show AWP _ _ _ _ _ | show loopQ _ _ _ _ _ _))) | (refine awp_exit ?_; (first | show AWP _ _ _ _ _ | show loopQ _ _ _ _ _ _ | (simp only [blockQ_n]; first | show AWP _ _ _ _ _ | show loopQ _ _ _ _ _ _))) | ((first | refine walkS_end (hK _ ?_) | refine walkD_end (hK _ _ (okTrace_spec (by kernel_rfl)) ?_)); clear hK K; (first | show AWP _ _ _ _ _ | show loopQ _ _ _ _ _ _ | (simp only [blockQ_n]; first | show AWP _ _ _ _ _ | show loopQ _ _ _ _ _ _))) | ((first | refine walkS_call3 rfl rfl rfl ?_ | refine walkD_call3 rfl rfl rfl ?_); simp (maxSteps := 2000000) (disch := omega) only [go_sem, ↓reduceIte, reduceCtorEq, Nat.reduceLT, Nat.reducePow, Nat.reduceLeDiff, Nat.reduceAdd, Nat.reduceMul, Nat.reduceSub, Nat.reduceEqDiff, Nat.reduceBEq, Int.reduceToNat, Int.reduceBEq, Int.reduceBNe, ty30, ty99, ty3, ty4, un4]; (first | refine ⟨_, awake10_c, ?_⟩ | refine ⟨_, j1, ?_⟩ | refine ⟨_, fS, ?_⟩ | refine ⟨_, i1, ?_⟩ | refine ⟨_, i2, ?_⟩ | refine ⟨_, i3, ?_⟩ | refine ⟨_, m1, ?_⟩ | refine ⟨_, m2, ?_⟩ | refine ⟨_, c1, ?_⟩)) | ((first | refine walkS_run1 [25,26,110] rfl ?_ | refine walkD_run1 [25,26,110] rfl ?_); simp (maxSteps := 2000000) (disch := omega) only [go_sem, ↓reduceIte, reduceCtorEq, Nat.reduceLT, Nat.reducePow, Nat.reduceLeDiff, Nat.reduceAdd, Nat.reduceMul, Nat.reduceSub, Nat.reduceEqDiff, Nat.reduceBEq, Int.reduceToNat, Int.reduceBEq, Int.reduceBNe, ty30, ty99, ty3, ty4, un4]; (repeat (first | refine ⟨by omega, ?_⟩ | refine ⟨True.intro, ?_⟩)))))
            refine awp_ret ⟨_, ?_, rfl⟩; rw [Try.results9]; simp (disch := omega) only [ResVars, ResVar, ptrLoc, go_sem, ↓reduceIte, reduceCtorEq, Nat.reduceLT, Nat.reducePow, Nat.reduceLeDiff, Nat.reduceAdd, Nat.reduceMul, Nat.reduceSub, Nat.reduceEqDiff, Nat.reduceBEq, Int.reduceToNat, Int.reduceBEq, Int.reduceBNe, ty30, ty99, ty3, ty4, un4]
      · subst hs
        have q1 : (o == 0) = false := by simpa using ho
        have q2 : (o == o) = true := beq_self_eq_true o
        by_cases h1 : i < x.length
        all_goals
          by_cases h2 : i < y.length
        all_goals
          (repeat (first | refine awp_seq ?_ | refine awp_yes rfl ?_ | refine awp_no rfl ?_ | refine awp_block ?_ | (refine awp_region fun K hK => ?_) | (refine awp_draw (by kernel_rfl) (by kernel_rfl) fun K hK => ?_) | (refine awp_skip ?_; (first | show AWP _ _ _ _ _ | show loopQ _ _ _ _ _ _ | (simp only [blockQ_n]; first | show AWP _ _ _ _ _ | show loopQ _ _ _ _ _ _))) | (refine awp_exit ?_; (first | show AWP _ _ _ _ _ | show loopQ _ _ _ _ _ _ | (simp only [blockQ_n]; first | show AWP _ _ _ _ _ | show loopQ _ _ _ _ _ _))) | ((first | refine walkS_end (hK _ ?_) | refine walkD_end (hK _ _ (okTrace_spec (by kernel_rfl)) ?_)); clear hK K; (first | show AWP _ _ _ _ _ | show loopQ _ _ _ _ _ _ | (simp only [blockQ_n]; first | show AWP _ _ _ _ _ | show loopQ _ _ _ _ _ _))) | ((first | refine walkS_call3 rfl rfl rfl ?_ | refine walkD_call3 rfl rfl rfl ?_); simp (maxSteps := 2000000) (disch := omega) only [go_sem, ↓reduceIte, reduceCtorEq, Nat.reduceLT, Nat.reducePow, Nat.reduceLeDiff, Nat.reduceAdd, Nat.reduceMul, Nat.reduceSub, Nat.reduceEqDiff, Nat.reduceBEq, Int.reduceToNat, Int.reduceBEq, Int.reduceBNe, ty30, ty99, ty3, ty4, un4, q1, q2]; (first | refine ⟨_, awake10_c, ?_⟩ | refine ⟨_, j1, ?_⟩ | refine ⟨_, fS, ?_⟩ | refine ⟨_, i1, ?_⟩ | refine ⟨_, i2, ?_⟩ | refine ⟨_, i3, ?_⟩ | refine ⟨_, m1, ?_⟩ | refine ⟨_, m2, ?_⟩ | refine ⟨_, c1, ?_⟩)) | ((first | refine walkS_run1 [25,26,110] rfl ?_ | refine walkD_run1 [25,26,110] rfl ?_); simp (maxSteps := 2000000) (disch := omega) only [go_sem, ↓reduceIte, reduceCtorEq, Nat.reduceLT, Nat.reducePow, Nat.reduceLeDiff, Nat.reduceAdd, Nat.reduceMul, Nat.reduceSub, Nat.reduceEqDiff, Nat.reduceBEq, Int.reduceToNat, Int.reduceBEq, Int.reduceBNe, ty30, ty99, ty3, ty4, un4, q1, q2]; (repeat (first | refine ⟨by omega, ?_⟩ | refine ⟨True.intro, ?_⟩)))))
          refine awp_ret ⟨_, ?_, rfl⟩; rw [Try.results9]; simp (disch := omega) only [ResVars, ResVar, ptrLoc, go_sem, ↓reduceIte, reduceCtorEq, Nat.reduceLT, Nat.reducePow, Nat.reduceLeDiff, Nat.reduceAdd, Nat.reduceMul, Nat.reduceSub, Nat.reduceEqDiff, Nat.reduceBEq, Int.reduceToNat, Int.reduceBEq, Int.reduceBNe, ty30, ty99, ty3, ty4, un4, q1, q2]
    · refine acalls_of_awp Try.func9 rfl (by decide +kernel) (by rw [Try.ntmps9]; simp) ?_; rw [Try.ntmps9]; simp only [frOf]
      (repeat (first | refine awp_seq ?_ | refine awp_yes rfl ?_ | refine awp_no rfl ?_ | refine awp_block ?_ | (refine awp_region fun K hK => ?_) | (refine awp_draw (by kernel_rfl) (by kernel_rfl) fun K hK => ?_) | (refine awp_skip ?_; (first | show AWP _ _ _ _ _ | show loopQ _ _ _ _ _ _ | (simp only [blockQ_n]; first | show AWP _ _ _ _ _ | show loopQ _ _ _ _ _ _))) | (refine awp_exit ?_; (first | show AWP _ _ _ _ _ | show loopQ _ _ _ _ _ _ | (simp only [blockQ_n]; first | show AWP _ _ _ _ _ | show loopQ _ _ _ _ _ _))) | ((first | refine walkS_end (hK _ ?_) | refine walkD_end (hK _ _ (okTrace_spec (by kernel_rfl)) ?_)); clear hK K; (first | show AWP _ _ _ _ _ | show loopQ _ _ _ _ _ _ | (simp only [blockQ_n]; first | show AWP _ _ _ _ _ | show loopQ _ _ _ _ _ _))) | ((first | refine walkS_call3 rfl rfl rfl ?_ | refine walkD_call3 rfl rfl rfl ?_); simp (maxSteps := 2000000) (disch := omega) only [go_sem, ↓reduceIte, reduceCtorEq, Nat.reduceLT, Nat.reducePow, Nat.reduceLeDiff, Nat.reduceAdd, Nat.reduceMul, Nat.reduceSub, Nat.reduceEqDiff, Nat.reduceBEq, Int.reduceToNat, Int.reduceBEq, Int.reduceBNe, ty30, ty99, ty3, ty4, un4]; (first | refine ⟨_, awake10_c, ?_⟩)) | ((first | refine walkS_run1 [25,26,110] rfl ?_ | refine walkD_run1 [25,26,110] rfl ?_); simp (maxSteps := 2000000) (disch := omega) only [go_sem, ↓reduceIte, reduceCtorEq, Nat.reduceLT, Nat.reducePow, Nat.reduceLeDiff, Nat.reduceAdd, Nat.reduceMul, Nat.reduceSub, Nat.reduceEqDiff, Nat.reduceBEq, Int.reduceToNat, Int.reduceBEq, Int.reduceBNe, ty30, ty99, ty3, ty4, un4]; (repeat (first | refine ⟨by omega, ?_⟩ | refine ⟨True.intro, ?_⟩)))))
      refine awp_ret ⟨_, ?_, rfl⟩; rw [Try.results9]; simp (disch := omega) only [ResVars, ResVar, ptrLoc, go_sem, ↓reduceIte, reduceCtorEq, Nat.reduceLT, Nat.reducePow, Nat.reduceLeDiff, Nat.reduceAdd, Nat.reduceMul, Nat.reduceSub, Nat.reduceEqDiff, Nat.reduceBEq, Int.reduceToNat, Int.reduceBEq, Int.reduceBNe, ty30, ty99, ty3, ty4, un4]
  · refine acalls_of_awp Try.func9 rfl (by decide +kernel) (by rw [Try.ntmps9]; simp) ?_; rw [Try.ntmps9]; simp only [frOf]
    (repeat (first | refine awp_seq ?_ | refine awp_yes rfl ?_ | refine awp_no rfl ?_ | refine awp_block ?_ | (refine awp_region fun K hK => ?_) | (refine awp_draw (by kernel_rfl) (by kernel_rfl) fun K hK => ?_) | (refine awp_skip ?_; (first | show AWP _ _ _ _ _ | show loopQ _ _ _ _ _ _ | (simp only [blockQ_n]; first | show AWP _ _ _ _ _ | show loopQ _ _ _ _ _ _))) | (refine awp_exit ?_; (first | show AWP _ _ _ _ _ | show loopQ _ _ _ _ _ _ | (simp only [blockQ_n]; first | show AWP _ _ _ _ _ | show loopQ _ _ _ _ _ _))) | ((first | refine walkS_end (hK _ ?_) | refine walkD_end (hK _ _ (okTrace_spec (by kernel_rfl)) ?_)); clear hK K; (first | show AWP _ _ _ _ _ | show loopQ _ _ _ _ _ _ | (simp only [blockQ_n]; first | show AWP _ _ _ _ _ | show loopQ _ _ _ _ _ _))) | ((first | refine walkS_call3 rfl rfl rfl ?_ | refine walkD_call3 rfl rfl rfl ?_); simp (maxSteps := 2000000) (disch := omega) only [go_sem, ↓reduceIte, reduceCtorEq, Nat.reduceLT, Nat.reducePow, Nat.reduceLeDiff, Nat.reduceAdd, Nat.reduceMul, Nat.reduceSub, Nat.reduceEqDiff, Nat.reduceBEq, Int.reduceToNat, Int.reduceBEq, Int.reduceBNe, ty30, ty99, ty3, ty4, un4]; (first | refine ⟨_, awake10_c, ?_⟩)) | ((first | refine walkS_run1 [25,26,110] rfl ?_ | refine walkD_run1 [25,26,110] rfl ?_); simp (maxSteps := 2000000) (disch := omega) only [go_sem, ↓reduceIte, reduceCtorEq, Nat.reduceLT, Nat.reducePow, Nat.reduceLeDiff, Nat.reduceAdd, Nat.reduceMul, Nat.reduceSub, Nat.reduceEqDiff, Nat.reduceBEq, Int.reduceToNat, Int.reduceBEq, Int.reduceBNe, ty30, ty99, ty3, ty4, un4]; (repeat (first | refine ⟨by omega, ?_⟩ | refine ⟨True.intro, ?_⟩)))))
    refine awp_ret ⟨_, ?_, rfl⟩; rw [Try.results9]; simp (disch := omega) only [ResVars, ResVar, ptrLoc, go_sem, ↓reduceIte, reduceCtorEq, Nat.reduceLT, Nat.reducePow, Nat.reduceLeDiff, Nat.reduceAdd, Nat.reduceMul, Nat.reduceSub, Nat.reduceEqDiff, Nat.reduceBEq, Int.reduceToNat, Int.reduceBEq, Int.reduceBNe, ty30, ty99, ty3, ty4, un4]
end Go.Proofs.Ytokibghllpfeaaa
