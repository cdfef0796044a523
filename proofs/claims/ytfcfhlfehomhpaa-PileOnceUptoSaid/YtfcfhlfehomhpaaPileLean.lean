/- PileLean: the law's call returns true. Conditions: none, but that no row is greater than memory bears. -/
import Derived.Test.YtfcfhlfehomhpaaRef6
set_option linter.unusedSimpArgs false
set_option linter.unusedVariables false
namespace Go.Proofs.Ytfcfhlfehomhpaa
open Go.Proofs.Ytfcfhlfehomhpaa.AL
def sameI (l : List Cube) (i : Fin (l.length + 1)) : ASt :=
  ⟨[(5, .p (.d (.v (.int .i64 (i.val : Int))))), (1, .p (.d (.sl 1 l.length (rowT l)))), (0, .p (.d (.sl 4 l.length (rowC l))))], []⟩
theorem str_refl (s : ByteArray) : (s == s) = true := by
  have : (s.data == s.data) = true := by simp
  exact this
theorem SameR_c (l : List Cube) (hs : ∀ k ∈ l, k.sound = true) (hl : l.length ≤ 1099511627776) : ACalls Try.prog 43 [.d (.sl 4 l.length (rowC l)), .d (.sl 1 l.length (rowT l))] (· = [.d (.v (.bool true))]) := by
  refine acalls_of_awp Try.func43 rfl (by decide +kernel) (by rw [Try.ntmps43]; simp) ?_; rw [Try.ntmps43]; simp only [frOf]
  (repeat (first | refine awp_seq ?_ | refine awp_yes rfl ?_ | refine awp_no rfl ?_ | refine awp_block ?_ | (refine awp_region fun K hK => ?_) | (refine awp_draw (by kernel_rfl) (by kernel_rfl) fun K hK => ?_) | (refine awp_skip ?_; (first | show AWP _ _ _ _ _ | show loopQ _ _ _ _ _ _)) | (refine awp_exit ?_; (first | show AWP _ _ _ _ _ | show loopQ _ _ _ _ _ _)) | ((first | refine walkS_end (hK _ ?_) | refine walkD_end (hK _ _ (okTrace_spec (by kernel_rfl)) ?_)); clear hK K; (first | show AWP _ _ _ _ _ | show loopQ _ _ _ _ _ _)) | ((first | refine walkS_run1 [] rfl ?_ | refine walkD_run1 [] rfl ?_); simp (maxSteps := 2000000) (disch := omega) only [go_sem, ↓reduceIte, reduceCtorEq, Nat.reduceLT, Nat.reducePow, Nat.reduceLeDiff, Nat.reduceAdd, Nat.reduceMul, Nat.reduceSub, Nat.reduceEqDiff, Nat.reduceBEq, Int.reduceToNat, Int.reduceBEq, Int.reduceBNe, ty24, ty26, ty36, ty22, ty3, ty4, ty9, ty41, un4, hd, cb, eqty24, eqty26, bne_self_eq_false, beq_self_eq_true, Bool.not_true]; (repeat (first | refine ⟨by omega, ?_⟩ | refine ⟨True.intro, ?_⟩)))))
  refine awp_loop (sameI l) (fun i => l.length - i.val) ⟨0, by omega⟩ ?_ (fun s => ?_)
  · unfold sameI
    refine Weak.list ?_ ?_; (all_goals simp (disch := omega) only [AllF, AllL, le_self, le_top, lle_self, exists_eq_left', Option.some.injEq, go_sem, ↓reduceIte, reduceCtorEq, Nat.reduceLT, Nat.reducePow, Nat.reduceLeDiff, Nat.reduceAdd, Nat.reduceMul, Nat.reduceSub, Nat.reduceEqDiff, Nat.reduceBEq, Int.reduceToNat, Int.reduceBEq, Int.reduceBNe, ty24, ty26, ty36, ty22, ty3, ty4, ty9, ty41, un4, hd, cb, eqty24, eqty26, bne_self_eq_false, beq_self_eq_true, Bool.not_true]); (all_goals (repeat' (with_reducible apply And.intro))); (all_goals try (first | exact le_eq rfl | (refine le_int ?_; omega) | (refine le_eq ?_; simp; done)))
  obtain ⟨i, hi⟩ := s
  unfold sameI
  by_cases hn : i < l.length
  · have r1 := rowC_at l i
    have r2 := rowT_of l i
    have sk := hs _ (getD_in hn ⟨0, 0⟩)
    generalize l.getD i ⟨0, 0⟩ = K at r1 r2 sk
    have tx := Text_c K
    rw [sk] at tx
    simp only [if_true] at tx
    have q := str_refl (txt K)
    generalize txt K = s at tx r2 q
    (repeat (first | refine awp_seq ?_ | refine awp_yes rfl ?_ | refine awp_no rfl ?_ | refine awp_block ?_ | (refine awp_region fun K hK => ?_) | (refine awp_draw (by kernel_rfl) (by kernel_rfl) fun K hK => ?_) | (refine awp_skip ?_; (first | show AWP _ _ _ _ _ | show loopQ _ _ _ _ _ _)) | (refine awp_exit ?_; (first | show AWP _ _ _ _ _ | show loopQ _ _ _ _ _ _)) | ((first | refine walkS_end (hK _ ?_) | refine walkD_end (hK _ _ (okTrace_spec (by kernel_rfl)) ?_)); clear hK K; (first | show AWP _ _ _ _ _ | show loopQ _ _ _ _ _ _)) | ((first | refine walkS_call3 rfl rfl rfl ?_ | refine walkD_call3 rfl rfl rfl ?_); simp (maxSteps := 2000000) (disch := omega) only [go_sem, ↓reduceIte, reduceCtorEq, Nat.reduceLT, Nat.reducePow, Nat.reduceLeDiff, Nat.reduceAdd, Nat.reduceMul, Nat.reduceSub, Nat.reduceEqDiff, Nat.reduceBEq, Int.reduceToNat, Int.reduceBEq, Int.reduceBNe, ty24, ty26, ty36, ty22, ty3, ty4, ty9, ty41, un4, hd, cb, eqty24, eqty26, bne_self_eq_false, beq_self_eq_true, Bool.not_true, r1, r2, q]; (first | refine ⟨_, tx, ?_⟩)) | ((first | refine walkS_run1 [] rfl ?_ | refine walkD_run1 [] rfl ?_); simp (maxSteps := 2000000) (disch := omega) only [go_sem, ↓reduceIte, reduceCtorEq, Nat.reduceLT, Nat.reducePow, Nat.reduceLeDiff, Nat.reduceAdd, Nat.reduceMul, Nat.reduceSub, Nat.reduceEqDiff, Nat.reduceBEq, Int.reduceToNat, Int.reduceBEq, Int.reduceBNe, ty24, ty26, ty36, ty22, ty3, ty4, ty9, ty41, un4, hd, cb, eqty24, eqty26, bne_self_eq_false, beq_self_eq_true, Bool.not_true, r1, r2, q]; (repeat (first | refine ⟨by omega, ?_⟩ | refine ⟨True.intro, ?_⟩)))))
    refine ⟨⟨i + 1, by omega⟩, by simp only []; omega, ?_⟩
    refine Weak.list ?_ ?_; (all_goals simp (disch := omega) only [AllF, AllL, le_self, le_top, lle_self, exists_eq_left', Option.some.injEq, go_sem, ↓reduceIte, reduceCtorEq, Nat.reduceLT, Nat.reducePow, Nat.reduceLeDiff, Nat.reduceAdd, Nat.reduceMul, Nat.reduceSub, Nat.reduceEqDiff, Nat.reduceBEq, Int.reduceToNat, Int.reduceBEq, Int.reduceBNe, ty24, ty26, ty36, ty22, ty3, ty4, ty9, ty41, un4, hd, cb, eqty24, eqty26, bne_self_eq_false, beq_self_eq_true, Bool.not_true, r1, r2, q]); (all_goals (repeat' (with_reducible apply And.intro))); (all_goals try (first | exact le_eq rfl | (refine le_int ?_; omega) | (refine le_eq ?_; simp; done)))
  · have : i = l.length := by omega
    subst this
    (repeat (first | refine awp_seq ?_ | refine awp_yes rfl ?_ | refine awp_no rfl ?_ | refine awp_block ?_ | (refine awp_region fun K hK => ?_) | (refine awp_draw (by kernel_rfl) (by kernel_rfl) fun K hK => ?_) | (refine awp_skip ?_; (first | show AWP _ _ _ _ _ | show loopQ _ _ _ _ _ _)) | (refine awp_exit ?_; (first | show AWP _ _ _ _ _ | show loopQ _ _ _ _ _ _)) | ((first | refine walkS_end (hK _ ?_) | refine walkD_end (hK _ _ (okTrace_spec (by kernel_rfl)) ?_)); clear hK K; (first | show AWP _ _ _ _ _ | show loopQ _ _ _ _ _ _)) | ((first | refine walkS_run1 [] rfl ?_ | refine walkD_run1 [] rfl ?_); simp (maxSteps := 2000000) (disch := omega) only [go_sem, ↓reduceIte, reduceCtorEq, Nat.reduceLT, Nat.reducePow, Nat.reduceLeDiff, Nat.reduceAdd, Nat.reduceMul, Nat.reduceSub, Nat.reduceEqDiff, Nat.reduceBEq, Int.reduceToNat, Int.reduceBEq, Int.reduceBNe, ty24, ty26, ty36, ty22, ty3, ty4, ty9, ty41, un4, hd, cb, eqty24, eqty26, bne_self_eq_false, beq_self_eq_true, Bool.not_true]; (repeat (first | refine ⟨by omega, ?_⟩ | refine ⟨True.intro, ?_⟩)))))
    refine awp_ret ⟨_, ?_, rfl⟩; rw [Try.results43]; simp (disch := omega) only [ResVars, ResVar, ptrLoc, go_sem, ↓reduceIte, reduceCtorEq, Nat.reduceLT, Nat.reducePow, Nat.reduceLeDiff, Nat.reduceAdd, Nat.reduceMul, Nat.reduceSub, Nat.reduceEqDiff, Nat.reduceBEq, Int.reduceToNat, Int.reduceBEq, Int.reduceBNe, ty24, ty26, ty36, ty22, ty3, ty4, ty9, ty41, un4, hd, cb, eqty24, eqty26, bne_self_eq_false, beq_self_eq_true, Bool.not_true]
def pileLeanI (q : List Cube) (s : {s : Nat × List Cube // s.1 ≤ q.length ∧ s.2 = (q.take s.1).filter Cube.sound ∧ s.2.length ≤ s.1}) : ASt :=
  ⟨[(4, .p (.d (.v (.int .i64 (s.val.1 : Int))))), (3, .gr 12 s.val.2.length 1 s.val.2.length (rowT s.val.2)), (0, .p (.d (.sl 4 q.length (rowC q))))], [(12, .grow 9 1 s.val.2.length s.val.2.length)]⟩
set_option maxRecDepth 100000 in
set_option maxHeartbeats 1000000 in
theorem PileLean_c (p : List Cube) (hl : p.length ≤ 1099511627776) : ACalls Try.prog 11 [.d (.sl 4 p.length (rowC p))] (· = [.d (.v (.bool true))]) := by
  have key : ∃ q : List Cube, q.length ≤ 40 ∧ q = p.take 40 := ⟨_, by simp; omega, rfl⟩
  obtain ⟨q, hq, hqp⟩ := key
  by_cases h40 : p.length > 40
  all_goals
    refine acalls_of_awp Try.func11 rfl (by decide +kernel) (by rw [Try.ntmps11]; simp) ?_; rw [Try.ntmps11]; simp only [frOf]
    (repeat ((fail_if_success (show AWP _ _ (.region 3 _ _) _ _)); first | refine awp_seq ?_ | refine awp_yes rfl ?_ | refine awp_no rfl ?_ | refine awp_block ?_ | (refine awp_region fun K hK => ?_) | (refine awp_draw (by kernel_rfl) (by kernel_rfl) fun K hK => ?_) | (refine awp_skip ?_; (first | show AWP _ _ _ _ _ | show loopQ _ _ _ _ _ _)) | (refine awp_exit ?_; (first | show AWP _ _ _ _ _ | show loopQ _ _ _ _ _ _)) | ((first | refine walkS_end (hK _ ?_) | refine walkD_end (hK _ _ (okTrace_spec (by kernel_rfl)) ?_)); clear hK K; (first | show AWP _ _ _ _ _ | show loopQ _ _ _ _ _ _)) | ((first | refine walkS_run1 [12] rfl ?_ | refine walkD_run1 [12] rfl ?_); simp (maxSteps := 2000000) (disch := omega) only [go_sem, ↓reduceIte, reduceCtorEq, Nat.reduceLT, Nat.reducePow, Nat.reduceLeDiff, Nat.reduceAdd, Nat.reduceMul, Nat.reduceSub, Nat.reduceEqDiff, Nat.reduceBEq, Int.reduceToNat, Int.reduceBEq, Int.reduceBNe, ty24, ty26, ty36, ty22, ty3, ty4, ty9, ty41, un4, hd, cb, eqty24, eqty26, bne_self_eq_false, beq_self_eq_true, Bool.not_true]; (repeat (first | refine ⟨by omega, ?_⟩ | refine ⟨True.intro, ?_⟩)))))
  · refine awp_slot 0 _ (.p (.d (.sl 4 q.length (rowC q)))) rfl (le_sl (by rw [hqp]; simp; omega) (fun i hi => ?_)) ?_
    · subst hqp
      unfold rowC
      simp only [List.getD_eq_getElem?_getD]
      rw [List.getElem?_take_of_lt (by omega)]
    (repeat (first | refine awp_seq ?_ | refine awp_yes rfl ?_ | refine awp_no rfl ?_ | refine awp_block ?_ | (refine awp_region fun K hK => ?_) | (refine awp_draw (by kernel_rfl) (by kernel_rfl) fun K hK => ?_) | (refine awp_skip ?_; (first | show AWP _ _ _ _ _ | show loopQ _ _ _ _ _ _)) | (refine awp_exit ?_; (first | show AWP _ _ _ _ _ | show loopQ _ _ _ _ _ _)) | ((first | refine walkS_end (hK _ ?_) | refine walkD_end (hK _ _ (okTrace_spec (by kernel_rfl)) ?_)); clear hK K; (first | show AWP _ _ _ _ _ | show loopQ _ _ _ _ _ _)) | ((first | refine walkS_run1 [12] rfl ?_ | refine walkD_run1 [12] rfl ?_); simp (maxSteps := 2000000) (disch := omega) only [go_sem, ↓reduceIte, reduceCtorEq, Nat.reduceLT, Nat.reducePow, Nat.reduceLeDiff, Nat.reduceAdd, Nat.reduceMul, Nat.reduceSub, Nat.reduceEqDiff, Nat.reduceBEq, Int.reduceToNat, Int.reduceBEq, Int.reduceBNe, ty24, ty26, ty36, ty22, ty3, ty4, ty9, ty41, un4, hd, cb, eqty24, eqty26, bne_self_eq_false, beq_self_eq_true, Bool.not_true]; (repeat (first | refine ⟨by omega, ?_⟩ | refine ⟨True.intro, ?_⟩)))))
    refine awp_loop (pileLeanI q) (fun s => q.length - s.val.1) ⟨(0, []), by simp, by simp, by simp⟩ ?_ (fun s => ?_)
    · unfold pileLeanI
      refine Weak.list ?_ ?_; (all_goals simp (disch := omega) only [AllF, AllL, le_self, le_top, lle_self, exists_eq_left', Option.some.injEq, go_sem, ↓reduceIte, reduceCtorEq, Nat.reduceLT, Nat.reducePow, Nat.reduceLeDiff, Nat.reduceAdd, Nat.reduceMul, Nat.reduceSub, Nat.reduceEqDiff, Nat.reduceBEq, Int.reduceToNat, Int.reduceBEq, Int.reduceBNe, ty24, ty26, ty36, ty22, ty3, ty4, ty9, ty41, un4, hd, cb, eqty24, eqty26, bne_self_eq_false, beq_self_eq_true, Bool.not_true]); (all_goals (repeat' (with_reducible apply And.intro))); (all_goals try (first | exact le_eq rfl | (refine le_int ?_; omega) | (refine le_eq ?_; simp; done)))
      exact le_grgr rfl rfl (fun i hi => by omega)
    obtain ⟨⟨i, out⟩, hi, he, ho⟩ := s
    unfold pileLeanI
    simp only [] at hi he ho
    by_cases hn : i < q.length
    · have r1 := rowC_at q i
      have sk := take_succ_getD q i ⟨0, 0⟩ hn
      generalize q.getD i ⟨0, 0⟩ = K at r1 sk
      have st : (q.take (i + 1)).filter Cube.sound = out ++ if K.sound then [K] else [] := by
        rw [sk, List.filter_append, ← he]
        cases h : K.sound <;> simp [h]
      have tx := Text_c K
      cases h : K.sound
      all_goals
        rw [h] at tx st
        simp only [Bool.false_eq_true, if_false, if_true] at tx st
        (repeat (first | refine awp_seq ?_ | refine awp_yes rfl ?_ | refine awp_no rfl ?_ | refine awp_block ?_ | (refine awp_region fun K hK => ?_) | (refine awp_draw (by kernel_rfl) (by kernel_rfl) fun K hK => ?_) | (refine awp_skip ?_; (first | show AWP _ _ _ _ _ | show loopQ _ _ _ _ _ _)) | (refine awp_exit ?_; (first | show AWP _ _ _ _ _ | show loopQ _ _ _ _ _ _)) | ((first | refine walkS_end (hK _ ?_) | refine walkD_end (hK _ _ (okTrace_spec (by kernel_rfl)) ?_)); clear hK K; (first | show AWP _ _ _ _ _ | show loopQ _ _ _ _ _ _)) | ((first | refine walkS_call3 rfl rfl rfl ?_ | refine walkD_call3 rfl rfl rfl ?_); simp (maxSteps := 2000000) (disch := omega) only [go_sem, ↓reduceIte, reduceCtorEq, Nat.reduceLT, Nat.reducePow, Nat.reduceLeDiff, Nat.reduceAdd, Nat.reduceMul, Nat.reduceSub, Nat.reduceEqDiff, Nat.reduceBEq, Int.reduceToNat, Int.reduceBEq, Int.reduceBNe, ty24, ty26, ty36, ty22, ty3, ty4, ty9, ty41, un4, hd, cb, eqty24, eqty26, bne_self_eq_false, beq_self_eq_true, Bool.not_true, r1]; (first | refine ⟨_, tx, ?_⟩)) | ((first | refine walkS_run1 [12] rfl ?_ | refine walkD_run1 [12] rfl ?_); simp (maxSteps := 2000000) (disch := omega) only [go_sem, ↓reduceIte, reduceCtorEq, Nat.reduceLT, Nat.reducePow, Nat.reduceLeDiff, Nat.reduceAdd, Nat.reduceMul, Nat.reduceSub, Nat.reduceEqDiff, Nat.reduceBEq, Int.reduceToNat, Int.reduceBEq, Int.reduceBNe, ty24, ty26, ty36, ty22, ty3, ty4, ty9, ty41, un4, hd, cb, eqty24, eqty26, bne_self_eq_false, beq_self_eq_true, Bool.not_true, r1]; (repeat (first | refine ⟨by omega, ?_⟩ | refine ⟨True.intro, ?_⟩)))))
      · rw [List.append_nil] at st
        refine ⟨⟨(i + 1, out), by simp only []; omega, st.symm, by simp only []; omega⟩, by simp only []; omega, ?_⟩
        refine Weak.list ?_ ?_; (all_goals simp (disch := omega) only [AllF, AllL, le_self, le_top, lle_self, exists_eq_left', Option.some.injEq, go_sem, ↓reduceIte, reduceCtorEq, Nat.reduceLT, Nat.reducePow, Nat.reduceLeDiff, Nat.reduceAdd, Nat.reduceMul, Nat.reduceSub, Nat.reduceEqDiff, Nat.reduceBEq, Int.reduceToNat, Int.reduceBEq, Int.reduceBNe, ty24, ty26, ty36, ty22, ty3, ty4, ty9, ty41, un4, hd, cb, eqty24, eqty26, bne_self_eq_false, beq_self_eq_true, Bool.not_true, r1]); (all_goals (repeat' (with_reducible apply And.intro))); (all_goals try (first | exact le_eq rfl | (refine le_int ?_; omega) | (refine le_eq ?_; simp; done)))
      · refine ⟨⟨(i + 1, out ++ [K]), by simp only []; omega, st.symm, by simp; omega⟩, by simp only []; omega, ?_⟩
        refine Weak.list ?_ ?_; (all_goals simp (disch := omega) only [AllF, AllL, le_self, le_top, lle_self, exists_eq_left', Option.some.injEq, go_sem, ↓reduceIte, reduceCtorEq, Nat.reduceLT, Nat.reducePow, Nat.reduceLeDiff, Nat.reduceAdd, Nat.reduceMul, Nat.reduceSub, Nat.reduceEqDiff, Nat.reduceBEq, Int.reduceToNat, Int.reduceBEq, Int.reduceBNe, ty24, ty26, ty36, ty22, ty3, ty4, ty9, ty41, un4, hd, cb, eqty24, eqty26, bne_self_eq_false, beq_self_eq_true, Bool.not_true, r1]); (all_goals (repeat' (with_reducible apply And.intro))); (all_goals try (first | exact le_eq rfl | (refine le_int ?_; omega) | (refine le_eq ?_; simp; done)))
        · exact le_grgr (by simp) (by simp) (fun k hk => rowT_put out K k hk)
        · exact lle_grow (by simp) (by simp)
    · have hil : i = q.length := by omega
      subst hil
      rw [List.take_length] at he
      have l1 := Lean_c q (by omega)
      have l2 := LeanT_c out (fun k hk => by rw [he] at hk; exact (List.mem_filter.1 hk).2) (by omega)
      have e : leanP out = leanP q := by rw [he]; exact lean_filter q
      rw [e] at l2
      have sm := SameR_c (leanP q) (fun k hk => (leanP_mem hk).2) (by have := leanTo_len q q.length; unfold leanP; omega)
      generalize leanP q = m at l1 l2 sm
      (repeat (first | refine awp_seq ?_ | refine awp_yes rfl ?_ | refine awp_no rfl ?_ | refine awp_block ?_ | (refine awp_region fun K hK => ?_) | (refine awp_draw (by kernel_rfl) (by kernel_rfl) fun K hK => ?_) | (refine awp_skip ?_; (first | show AWP _ _ _ _ _ | show loopQ _ _ _ _ _ _)) | (refine awp_exit ?_; (first | show AWP _ _ _ _ _ | show loopQ _ _ _ _ _ _)) | ((first | refine walkS_end (hK _ ?_) | refine walkD_end (hK _ _ (okTrace_spec (by kernel_rfl)) ?_)); clear hK K; (first | show AWP _ _ _ _ _ | show loopQ _ _ _ _ _ _)) | ((first | refine walkS_call3 rfl rfl rfl ?_ | refine walkD_call3 rfl rfl rfl ?_); simp (maxSteps := 2000000) (disch := omega) only [go_sem, ↓reduceIte, reduceCtorEq, Nat.reduceLT, Nat.reducePow, Nat.reduceLeDiff, Nat.reduceAdd, Nat.reduceMul, Nat.reduceSub, Nat.reduceEqDiff, Nat.reduceBEq, Int.reduceToNat, Int.reduceBEq, Int.reduceBNe, ty24, ty26, ty36, ty22, ty3, ty4, ty9, ty41, un4, hd, cb, eqty24, eqty26, bne_self_eq_false, beq_self_eq_true, Bool.not_true]; (first | refine ⟨_, awake3_c, ?_⟩ | refine ⟨_, l1, ?_⟩ | refine ⟨_, l2, ?_⟩ | refine ⟨_, sm, ?_⟩)) | ((first | refine walkS_run1 [12] rfl ?_ | refine walkD_run1 [12] rfl ?_); simp (maxSteps := 2000000) (disch := omega) only [go_sem, ↓reduceIte, reduceCtorEq, Nat.reduceLT, Nat.reducePow, Nat.reduceLeDiff, Nat.reduceAdd, Nat.reduceMul, Nat.reduceSub, Nat.reduceEqDiff, Nat.reduceBEq, Int.reduceToNat, Int.reduceBEq, Int.reduceBNe, ty24, ty26, ty36, ty22, ty3, ty4, ty9, ty41, un4, hd, cb, eqty24, eqty26, bne_self_eq_false, beq_self_eq_true, Bool.not_true]; (repeat (first | refine ⟨by omega, ?_⟩ | refine ⟨True.intro, ?_⟩)))))
      refine awp_ret ⟨_, ?_, rfl⟩; rw [Try.results11]; simp (disch := omega) only [ResVars, ResVar, ptrLoc, go_sem, ↓reduceIte, reduceCtorEq, Nat.reduceLT, Nat.reducePow, Nat.reduceLeDiff, Nat.reduceAdd, Nat.reduceMul, Nat.reduceSub, Nat.reduceEqDiff, Nat.reduceBEq, Int.reduceToNat, Int.reduceBEq, Int.reduceBNe, ty24, ty26, ty36, ty22, ty3, ty4, ty9, ty41, un4, hd, cb, eqty24, eqty26, bne_self_eq_false, beq_self_eq_true, Bool.not_true]
  · have : q = p := by rw [hqp, List.take_of_length_le (by omega)]
    rw [← this]
    (repeat (first | refine awp_seq ?_ | refine awp_yes rfl ?_ | refine awp_no rfl ?_ | refine awp_block ?_ | (refine awp_region fun K hK => ?_) | (refine awp_draw (by kernel_rfl) (by kernel_rfl) fun K hK => ?_) | (refine awp_skip ?_; (first | show AWP _ _ _ _ _ | show loopQ _ _ _ _ _ _)) | (refine awp_exit ?_; (first | show AWP _ _ _ _ _ | show loopQ _ _ _ _ _ _)) | ((first | refine walkS_end (hK _ ?_) | refine walkD_end (hK _ _ (okTrace_spec (by kernel_rfl)) ?_)); clear hK K; (first | show AWP _ _ _ _ _ | show loopQ _ _ _ _ _ _)) | ((first | refine walkS_run1 [12] rfl ?_ | refine walkD_run1 [12] rfl ?_); simp (maxSteps := 2000000) (disch := omega) only [go_sem, ↓reduceIte, reduceCtorEq, Nat.reduceLT, Nat.reducePow, Nat.reduceLeDiff, Nat.reduceAdd, Nat.reduceMul, Nat.reduceSub, Nat.reduceEqDiff, Nat.reduceBEq, Int.reduceToNat, Int.reduceBEq, Int.reduceBNe, ty24, ty26, ty36, ty22, ty3, ty4, ty9, ty41, un4, hd, cb, eqty24, eqty26, bne_self_eq_false, beq_self_eq_true, Bool.not_true]; (repeat (first | refine ⟨by omega, ?_⟩ | refine ⟨True.intro, ?_⟩)))))
    refine awp_loop (pileLeanI q) (fun s => q.length - s.val.1) ⟨(0, []), by simp, by simp, by simp⟩ ?_ (fun s => ?_)
    · unfold pileLeanI
      refine Weak.list ?_ ?_; (all_goals simp (disch := omega) only [AllF, AllL, le_self, le_top, lle_self, exists_eq_left', Option.some.injEq, go_sem, ↓reduceIte, reduceCtorEq, Nat.reduceLT, Nat.reducePow, Nat.reduceLeDiff, Nat.reduceAdd, Nat.reduceMul, Nat.reduceSub, Nat.reduceEqDiff, Nat.reduceBEq, Int.reduceToNat, Int.reduceBEq, Int.reduceBNe, ty24, ty26, ty36, ty22, ty3, ty4, ty9, ty41, un4, hd, cb, eqty24, eqty26, bne_self_eq_false, beq_self_eq_true, Bool.not_true]); (all_goals (repeat' (with_reducible apply And.intro))); (all_goals try (first | exact le_eq rfl | (refine le_int ?_; omega) | (refine le_eq ?_; simp; done)))
      exact le_grgr rfl rfl (fun i hi => by omega)
    obtain ⟨⟨i, out⟩, hi, he, ho⟩ := s
    unfold pileLeanI
    simp only [] at hi he ho
    by_cases hn : i < q.length
    · have r1 := rowC_at q i
      have sk := take_succ_getD q i ⟨0, 0⟩ hn
      generalize q.getD i ⟨0, 0⟩ = K at r1 sk
      have st : (q.take (i + 1)).filter Cube.sound = out ++ if K.sound then [K] else [] := by
        rw [sk, List.filter_append, ← he]
        cases h : K.sound <;> simp [h]
      have tx := Text_c K
      cases h : K.sound
      all_goals
        rw [h] at tx st
        simp only [Bool.false_eq_true, if_false, if_true] at tx st
        (repeat (first | refine awp_seq ?_ | refine awp_yes rfl ?_ | refine awp_no rfl ?_ | refine awp_block ?_ | (refine awp_region fun K hK => ?_) | (refine awp_draw (by kernel_rfl) (by kernel_rfl) fun K hK => ?_) | (refine awp_skip ?_; (first | show AWP _ _ _ _ _ | show loopQ _ _ _ _ _ _)) | (refine awp_exit ?_; (first | show AWP _ _ _ _ _ | show loopQ _ _ _ _ _ _)) | ((first | refine walkS_end (hK _ ?_) | refine walkD_end (hK _ _ (okTrace_spec (by kernel_rfl)) ?_)); clear hK K; (first | show AWP _ _ _ _ _ | show loopQ _ _ _ _ _ _)) | ((first | refine walkS_call3 rfl rfl rfl ?_ | refine walkD_call3 rfl rfl rfl ?_); simp (maxSteps := 2000000) (disch := omega) only [go_sem, ↓reduceIte, reduceCtorEq, Nat.reduceLT, Nat.reducePow, Nat.reduceLeDiff, Nat.reduceAdd, Nat.reduceMul, Nat.reduceSub, Nat.reduceEqDiff, Nat.reduceBEq, Int.reduceToNat, Int.reduceBEq, Int.reduceBNe, ty24, ty26, ty36, ty22, ty3, ty4, ty9, ty41, un4, hd, cb, eqty24, eqty26, bne_self_eq_false, beq_self_eq_true, Bool.not_true, r1]; (first | refine ⟨_, tx, ?_⟩)) | ((first | refine walkS_run1 [12] rfl ?_ | refine walkD_run1 [12] rfl ?_); simp (maxSteps := 2000000) (disch := omega) only [go_sem, ↓reduceIte, reduceCtorEq, Nat.reduceLT, Nat.reducePow, Nat.reduceLeDiff, Nat.reduceAdd, Nat.reduceMul, Nat.reduceSub, Nat.reduceEqDiff, Nat.reduceBEq, Int.reduceToNat, Int.reduceBEq, Int.reduceBNe, ty24, ty26, ty36, ty22, ty3, ty4, ty9, ty41, un4, hd, cb, eqty24, eqty26, bne_self_eq_false, beq_self_eq_true, Bool.not_true, r1]; (repeat (first | refine ⟨by omega, ?_⟩ | refine ⟨True.intro, ?_⟩)))))
      · rw [List.append_nil] at st
        refine ⟨⟨(i + 1, out), by simp only []; omega, st.symm, by simp only []; omega⟩, by simp only []; omega, ?_⟩
        refine Weak.list ?_ ?_; (all_goals simp (disch := omega) only [AllF, AllL, le_self, le_top, lle_self, exists_eq_left', Option.some.injEq, go_sem, ↓reduceIte, reduceCtorEq, Nat.reduceLT, Nat.reducePow, Nat.reduceLeDiff, Nat.reduceAdd, Nat.reduceMul, Nat.reduceSub, Nat.reduceEqDiff, Nat.reduceBEq, Int.reduceToNat, Int.reduceBEq, Int.reduceBNe, ty24, ty26, ty36, ty22, ty3, ty4, ty9, ty41, un4, hd, cb, eqty24, eqty26, bne_self_eq_false, beq_self_eq_true, Bool.not_true, r1]); (all_goals (repeat' (with_reducible apply And.intro))); (all_goals try (first | exact le_eq rfl | (refine le_int ?_; omega) | (refine le_eq ?_; simp; done)))
      · refine ⟨⟨(i + 1, out ++ [K]), by simp only []; omega, st.symm, by simp; omega⟩, by simp only []; omega, ?_⟩
        refine Weak.list ?_ ?_; (all_goals simp (disch := omega) only [AllF, AllL, le_self, le_top, lle_self, exists_eq_left', Option.some.injEq, go_sem, ↓reduceIte, reduceCtorEq, Nat.reduceLT, Nat.reducePow, Nat.reduceLeDiff, Nat.reduceAdd, Nat.reduceMul, Nat.reduceSub, Nat.reduceEqDiff, Nat.reduceBEq, Int.reduceToNat, Int.reduceBEq, Int.reduceBNe, ty24, ty26, ty36, ty22, ty3, ty4, ty9, ty41, un4, hd, cb, eqty24, eqty26, bne_self_eq_false, beq_self_eq_true, Bool.not_true, r1]); (all_goals (repeat' (with_reducible apply And.intro))); (all_goals try (first | exact le_eq rfl | (refine le_int ?_; omega) | (refine le_eq ?_; simp; done)))
        · exact le_grgr (by simp) (by simp) (fun k hk => rowT_put out K k hk)
        · exact lle_grow (by simp) (by simp)
    · have hil : i = q.length := by omega
      subst hil
      rw [List.take_length] at he
      have l1 := Lean_c q (by omega)
      have l2 := LeanT_c out (fun k hk => by rw [he] at hk; exact (List.mem_filter.1 hk).2) (by omega)
      have e : leanP out = leanP q := by rw [he]; exact lean_filter q
      rw [e] at l2
      have sm := SameR_c (leanP q) (fun k hk => (leanP_mem hk).2) (by have := leanTo_len q q.length; unfold leanP; omega)
      generalize leanP q = m at l1 l2 sm
      (repeat (first | refine awp_seq ?_ | refine awp_yes rfl ?_ | refine awp_no rfl ?_ | refine awp_block ?_ | (refine awp_region fun K hK => ?_) | (refine awp_draw (by kernel_rfl) (by kernel_rfl) fun K hK => ?_) | (refine awp_skip ?_; (first | show AWP _ _ _ _ _ | show loopQ _ _ _ _ _ _)) | (refine awp_exit ?_; (first | show AWP _ _ _ _ _ | show loopQ _ _ _ _ _ _)) | ((first | refine walkS_end (hK _ ?_) | refine walkD_end (hK _ _ (okTrace_spec (by kernel_rfl)) ?_)); clear hK K; (first | show AWP _ _ _ _ _ | show loopQ _ _ _ _ _ _)) | ((first | refine walkS_call3 rfl rfl rfl ?_ | refine walkD_call3 rfl rfl rfl ?_); simp (maxSteps := 2000000) (disch := omega) only [go_sem, ↓reduceIte, reduceCtorEq, Nat.reduceLT, Nat.reducePow, Nat.reduceLeDiff, Nat.reduceAdd, Nat.reduceMul, Nat.reduceSub, Nat.reduceEqDiff, Nat.reduceBEq, Int.reduceToNat, Int.reduceBEq, Int.reduceBNe, ty24, ty26, ty36, ty22, ty3, ty4, ty9, ty41, un4, hd, cb, eqty24, eqty26, bne_self_eq_false, beq_self_eq_true, Bool.not_true]; (first | refine ⟨_, awake3_c, ?_⟩ | refine ⟨_, l1, ?_⟩ | refine ⟨_, l2, ?_⟩ | refine ⟨_, sm, ?_⟩)) | ((first | refine walkS_run1 [12] rfl ?_ | refine walkD_run1 [12] rfl ?_); simp (maxSteps := 2000000) (disch := omega) only [go_sem, ↓reduceIte, reduceCtorEq, Nat.reduceLT, Nat.reducePow, Nat.reduceLeDiff, Nat.reduceAdd, Nat.reduceMul, Nat.reduceSub, Nat.reduceEqDiff, Nat.reduceBEq, Int.reduceToNat, Int.reduceBEq, Int.reduceBNe, ty24, ty26, ty36, ty22, ty3, ty4, ty9, ty41, un4, hd, cb, eqty24, eqty26, bne_self_eq_false, beq_self_eq_true, Bool.not_true]; (repeat (first | refine ⟨by omega, ?_⟩ | refine ⟨True.intro, ?_⟩)))))
      refine awp_ret ⟨_, ?_, rfl⟩; rw [Try.results11]; simp (disch := omega) only [ResVars, ResVar, ptrLoc, go_sem, ↓reduceIte, reduceCtorEq, Nat.reduceLT, Nat.reducePow, Nat.reduceLeDiff, Nat.reduceAdd, Nat.reduceMul, Nat.reduceSub, Nat.reduceEqDiff, Nat.reduceBEq, Int.reduceToNat, Int.reduceBEq, Int.reduceBNe, ty24, ty26, ty36, ty22, ty3, ty4, ty9, ty41, un4, hd, cb, eqty24, eqty26, bne_self_eq_false, beq_self_eq_true, Bool.not_true]
end Go.Proofs.Ytfcfhlfehomhpaa
