/- The document's package of layer 3, on: Lean, Same. Conditions: none, but that no row is greater than memory bears. -/
import Derived.Test.YtfcfhlfehomhpaaPileLaw
set_option linter.unusedSimpArgs false
set_option linter.unusedVariables false
namespace Go.Proofs.Ytfcfhlfehomhpaa
open Go.Proofs.Ytfcfhlfehomhpaa.AL
theorem any_range_succ (f : Nat → Bool) (n : Nat) : (List.range (n + 1)).any f = ((List.range n).any f || f n) := by
  rw [List.range_succ, List.any_append]; simp
def leanTI (L : List Cube) (s : {s : Nat × List Cube // s.1 ≤ L.length ∧ s.2 = leanTo L s.1}) : ASt :=
  ⟨[(4, .p (.d (.v (.int .i64 (s.val.1 : Int))))), (3, .gr 7 s.val.2.length 1 s.val.2.length (rowT s.val.2)), (0, .p (.d (.sl 1 L.length (rowT L))))], [(7, .grow 9 1 s.val.2.length s.val.2.length)]⟩
def leanTJ (L : List Cube) (i : Nat) (out : List Cube) (s : {s : Nat × Bool // s.1 ≤ L.length ∧ s.2 = (List.range s.1).any (spareBy L i)}) : ASt :=
  ⟨[(6, .p (.d (.v (.int .i64 (s.val.1 : Int))))), (5, .p (.d (.v (.bool s.val.2)))), (4, .p (.d (.v (.int .i64 (i : Int))))), (3, .gr 7 out.length 1 out.length (rowT out)), (0, .p (.d (.sl 1 L.length (rowT L))))], [(7, .grow 9 1 out.length out.length)]⟩
set_option maxRecDepth 100000 in
set_option maxHeartbeats 2000000 in
theorem LeanT_c (L : List Cube) (hs : ∀ k ∈ L, k.sound = true) (hl : L.length ≤ 1099511627776) : ACalls Try.prog 45 [.d (.sl 1 L.length (rowT L))] (· = [.d (.sl 1 (leanP L).length (rowT (leanP L)))]) := by
  refine acalls_of_awp Try.func45 rfl (by decide +kernel) (by rw [Try.ntmps45]; simp) ?_; rw [Try.ntmps45]; simp only [frOf]
  (repeat (first | refine awp_seq ?_ | refine awp_yes rfl ?_ | refine awp_no rfl ?_ | refine awp_block ?_ | (refine awp_region fun K hK => ?_) | (refine awp_draw (by kernel_rfl) (by kernel_rfl) fun K hK => ?_) | (refine awp_skip ?_; (first | show AWP _ _ _ _ _ | show loopQ _ _ _ _ _ _)) | (refine awp_exit ?_; (first | show AWP _ _ _ _ _ | show loopQ _ _ _ _ _ _)) | ((first | refine walkS_end (hK _ ?_) | refine walkD_end (hK _ _ (okTrace_spec (by kernel_rfl)) ?_)); clear hK K; (first | show AWP _ _ _ _ _ | show loopQ _ _ _ _ _ _)) | ((first | refine walkS_run1 [7] rfl ?_ | refine walkD_run1 [7] rfl ?_); simp (maxSteps := 2000000) (disch := omega) only [go_sem, ↓reduceIte, reduceCtorEq, Nat.reduceLT, Nat.reducePow, Nat.reduceLeDiff, Nat.reduceAdd, Nat.reduceMul, Nat.reduceSub, Nat.reduceEqDiff, Nat.reduceBEq, Int.reduceToNat, Int.reduceBEq, Int.reduceBNe, ty24, ty26, ty36, ty22, ty3, ty4, ty9, ty41, un4, hd, cb, eqty24, eqty26]; (repeat (first | refine ⟨by omega, ?_⟩ | refine ⟨True.intro, ?_⟩)))))
  refine awp_loop (leanTI L) (fun s => L.length - s.val.1) ⟨(0, []), by simp, by simp [leanTo]⟩ ?_ (fun s => ?_)
  · unfold leanTI
    refine Weak.list ?_ ?_; (all_goals simp (disch := omega) only [AllF, AllL, le_self, le_top, lle_self, exists_eq_left', Option.some.injEq, go_sem, ↓reduceIte, reduceCtorEq, Nat.reduceLT, Nat.reducePow, Nat.reduceLeDiff, Nat.reduceAdd, Nat.reduceMul, Nat.reduceSub, Nat.reduceEqDiff, Nat.reduceBEq, Int.reduceToNat, Int.reduceBEq, Int.reduceBNe, ty24, ty26, ty36, ty22, ty3, ty4, ty9, ty41, un4, hd, cb, eqty24, eqty26]); (all_goals (repeat' (with_reducible apply And.intro))); (all_goals try (first | exact le_eq rfl | (refine le_int ?_; omega) | (refine le_eq ?_; simp; done)))
    exact le_grgr rfl rfl (fun i hi => by omega)
  obtain ⟨⟨i, out⟩, hi, he⟩ := s
  unfold leanTI
  simp only [] at hi he
  have ho := leanTo_len L i
  rw [← he] at ho
  by_cases hn : i < L.length
  · have rn := rowT_of L i
    have sn := hs _ (getD_in hn ⟨0, 0⟩)
    have st := leanTo_succ L i
    rw [← he] at st
    obtain ⟨N, hN⟩ : ∃ N, L.getD i ⟨0, 0⟩ = N := ⟨_, rfl⟩
    rw [hN] at rn sn st
    (repeat (first | refine awp_seq ?_ | refine awp_yes rfl ?_ | refine awp_no rfl ?_ | refine awp_block ?_ | (refine awp_region fun K hK => ?_) | (refine awp_draw (by kernel_rfl) (by kernel_rfl) fun K hK => ?_) | (refine awp_skip ?_; (first | show AWP _ _ _ _ _ | show loopQ _ _ _ _ _ _)) | (refine awp_exit ?_; (first | show AWP _ _ _ _ _ | show loopQ _ _ _ _ _ _)) | ((first | refine walkS_end (hK _ ?_) | refine walkD_end (hK _ _ (okTrace_spec (by kernel_rfl)) ?_)); clear hK K; (first | show AWP _ _ _ _ _ | show loopQ _ _ _ _ _ _)) | ((first | refine walkS_run1 [7] rfl ?_ | refine walkD_run1 [7] rfl ?_); simp (maxSteps := 2000000) (disch := omega) only [go_sem, ↓reduceIte, reduceCtorEq, Nat.reduceLT, Nat.reducePow, Nat.reduceLeDiff, Nat.reduceAdd, Nat.reduceMul, Nat.reduceSub, Nat.reduceEqDiff, Nat.reduceBEq, Int.reduceToNat, Int.reduceBEq, Int.reduceBNe, ty24, ty26, ty36, ty22, ty3, ty4, ty9, ty41, un4, hd, cb, eqty24, eqty26]; (repeat (first | refine ⟨by omega, ?_⟩ | refine ⟨True.intro, ?_⟩)))))
    refine awp_loop (leanTJ L i out) (fun s => L.length - s.val.1) ⟨(0, false), by simp, by simp⟩ ?_ (fun s => ?_)
    · unfold leanTJ
      refine Weak.list ?_ ?_; (all_goals simp (disch := omega) only [AllF, AllL, le_self, le_top, lle_self, exists_eq_left', Option.some.injEq, go_sem, ↓reduceIte, reduceCtorEq, Nat.reduceLT, Nat.reducePow, Nat.reduceLeDiff, Nat.reduceAdd, Nat.reduceMul, Nat.reduceSub, Nat.reduceEqDiff, Nat.reduceBEq, Int.reduceToNat, Int.reduceBEq, Int.reduceBNe, ty24, ty26, ty36, ty22, ty3, ty4, ty9, ty41, un4, hd, cb, eqty24, eqty26]); (all_goals (repeat' (with_reducible apply And.intro))); (all_goals try (first | exact le_eq rfl | (refine le_int ?_; omega) | (refine le_eq ?_; simp; done)))
    obtain ⟨⟨j, sp⟩, hj, he2⟩ := s
    unfold leanTJ
    simp only [] at hj he2
    by_cases hm : j < L.length ∧ sp = false
    · obtain ⟨hm, rfl⟩ := hm
      have rj := rowT_of L j
      have sj := hs _ (getD_in hm ⟨0, 0⟩)
      have sb : spareBy L i j = (j != i && (withinC N (L.getD j ⟨0, 0⟩) && (N != L.getD j ⟨0, 0⟩ || decide (j < i)))) := by unfold spareBy; rw [hN]
      have ar := any_range_succ (spareBy L i) j
      rw [← he2, Bool.false_or] at ar
      generalize L.getD j ⟨0, 0⟩ = K at rj sj sb
      have wt := WithinT_c N K
      have hwo : withinT N K = withinC N K := by unfold withinC withinT; rw [sn, sj]; rfl
      have tb := txt_beq sn sj
      have nb : (N != K) = !(N == K) := rfl
      rw [hwo] at wt
      rw [nb] at sb
      generalize txt N = tN at rn wt tb
      generalize txt K = tK at rj wt tb
      by_cases hji : j = i
      · subst hji
        have h0 : spareBy L j j = false := by rw [sb]; simp
        rw [h0] at ar
        have q : ((j : Int) != (j : Int)) = false := by simp
        (repeat (first | refine awp_seq ?_ | refine awp_yes rfl ?_ | refine awp_no rfl ?_ | refine awp_block ?_ | (refine awp_region fun K hK => ?_) | (refine awp_draw (by kernel_rfl) (by kernel_rfl) fun K hK => ?_) | (refine awp_skip ?_; (first | show AWP _ _ _ _ _ | show loopQ _ _ _ _ _ _)) | (refine awp_exit ?_; (first | show AWP _ _ _ _ _ | show loopQ _ _ _ _ _ _)) | ((first | refine walkS_end (hK _ ?_) | refine walkD_end (hK _ _ (okTrace_spec (by kernel_rfl)) ?_)); clear hK K; (first | show AWP _ _ _ _ _ | show loopQ _ _ _ _ _ _)) | ((first | refine walkS_call3 rfl rfl rfl ?_ | refine walkD_call3 rfl rfl rfl ?_); simp (maxSteps := 2000000) (disch := omega) only [go_sem, ↓reduceIte, reduceCtorEq, Nat.reduceLT, Nat.reducePow, Nat.reduceLeDiff, Nat.reduceAdd, Nat.reduceMul, Nat.reduceSub, Nat.reduceEqDiff, Nat.reduceBEq, Int.reduceToNat, Int.reduceBEq, Int.reduceBNe, ty24, ty26, ty36, ty22, ty3, ty4, ty9, ty41, un4, hd, cb, eqty24, eqty26, q]; (first | refine ⟨_, wt, ?_⟩)) | ((first | refine walkS_run1 [7] rfl ?_ | refine walkD_run1 [7] rfl ?_); simp (maxSteps := 2000000) (disch := omega) only [go_sem, ↓reduceIte, reduceCtorEq, Nat.reduceLT, Nat.reducePow, Nat.reduceLeDiff, Nat.reduceAdd, Nat.reduceMul, Nat.reduceSub, Nat.reduceEqDiff, Nat.reduceBEq, Int.reduceToNat, Int.reduceBEq, Int.reduceBNe, ty24, ty26, ty36, ty22, ty3, ty4, ty9, ty41, un4, hd, cb, eqty24, eqty26, q]; (repeat (first | refine ⟨by omega, ?_⟩ | refine ⟨True.intro, ?_⟩)))))
        refine ⟨⟨(j + 1, false), by simp only []; omega, ar.symm⟩, by simp only []; omega, ?_⟩
        refine Weak.list ?_ ?_; (all_goals simp (disch := omega) only [AllF, AllL, le_self, le_top, lle_self, exists_eq_left', Option.some.injEq, go_sem, ↓reduceIte, reduceCtorEq, Nat.reduceLT, Nat.reducePow, Nat.reduceLeDiff, Nat.reduceAdd, Nat.reduceMul, Nat.reduceSub, Nat.reduceEqDiff, Nat.reduceBEq, Int.reduceToNat, Int.reduceBEq, Int.reduceBNe, ty24, ty26, ty36, ty22, ty3, ty4, ty9, ty41, un4, hd, cb, eqty24, eqty26, q]); (all_goals (repeat' (with_reducible apply And.intro))); (all_goals try (first | exact le_eq rfl | (refine le_int ?_; omega) | (refine le_eq ?_; simp; done)))
      · have q : ((j : Int) != (i : Int)) = true := by simp; omega
        have q2 : (j != i) = true := by simpa using hji
        rw [q2, Bool.true_and] at sb
        cases hw : withinC N K
        · rw [hw] at wt sb
          rw [sb] at ar
          (repeat (first | refine awp_seq ?_ | refine awp_yes rfl ?_ | refine awp_no rfl ?_ | refine awp_block ?_ | (refine awp_region fun K hK => ?_) | (refine awp_draw (by kernel_rfl) (by kernel_rfl) fun K hK => ?_) | (refine awp_skip ?_; (first | show AWP _ _ _ _ _ | show loopQ _ _ _ _ _ _)) | (refine awp_exit ?_; (first | show AWP _ _ _ _ _ | show loopQ _ _ _ _ _ _)) | ((first | refine walkS_end (hK _ ?_) | refine walkD_end (hK _ _ (okTrace_spec (by kernel_rfl)) ?_)); clear hK K; (first | show AWP _ _ _ _ _ | show loopQ _ _ _ _ _ _)) | ((first | refine walkS_call3 rfl rfl rfl ?_ | refine walkD_call3 rfl rfl rfl ?_); simp (maxSteps := 2000000) (disch := omega) only [go_sem, ↓reduceIte, reduceCtorEq, Nat.reduceLT, Nat.reducePow, Nat.reduceLeDiff, Nat.reduceAdd, Nat.reduceMul, Nat.reduceSub, Nat.reduceEqDiff, Nat.reduceBEq, Int.reduceToNat, Int.reduceBEq, Int.reduceBNe, ty24, ty26, ty36, ty22, ty3, ty4, ty9, ty41, un4, hd, cb, eqty24, eqty26, rn, rj, q]; (first | refine ⟨_, wt, ?_⟩)) | ((first | refine walkS_run1 [7] rfl ?_ | refine walkD_run1 [7] rfl ?_); simp (maxSteps := 2000000) (disch := omega) only [go_sem, ↓reduceIte, reduceCtorEq, Nat.reduceLT, Nat.reducePow, Nat.reduceLeDiff, Nat.reduceAdd, Nat.reduceMul, Nat.reduceSub, Nat.reduceEqDiff, Nat.reduceBEq, Int.reduceToNat, Int.reduceBEq, Int.reduceBNe, ty24, ty26, ty36, ty22, ty3, ty4, ty9, ty41, un4, hd, cb, eqty24, eqty26, rn, rj, q]; (repeat (first | refine ⟨by omega, ?_⟩ | refine ⟨True.intro, ?_⟩)))))
          refine ⟨⟨(j + 1, false), by simp only []; omega, ar.symm⟩, by simp only []; omega, ?_⟩
          refine Weak.list ?_ ?_; (all_goals simp (disch := omega) only [AllF, AllL, le_self, le_top, lle_self, exists_eq_left', Option.some.injEq, go_sem, ↓reduceIte, reduceCtorEq, Nat.reduceLT, Nat.reducePow, Nat.reduceLeDiff, Nat.reduceAdd, Nat.reduceMul, Nat.reduceSub, Nat.reduceEqDiff, Nat.reduceBEq, Int.reduceToNat, Int.reduceBEq, Int.reduceBNe, ty24, ty26, ty36, ty22, ty3, ty4, ty9, ty41, un4, hd, cb, eqty24, eqty26, rn, rj, q]); (all_goals (repeat' (with_reducible apply And.intro))); (all_goals try (first | exact le_eq rfl | (refine le_int ?_; omega) | (refine le_eq ?_; simp; done)))
        · rw [hw] at wt
          rw [hw, Bool.true_and] at sb
          cases hq : (N == K)
          · rw [hq] at tb sb
            rw [sb] at ar
            (repeat (first | refine awp_seq ?_ | refine awp_yes rfl ?_ | refine awp_no rfl ?_ | refine awp_block ?_ | (refine awp_region fun K hK => ?_) | (refine awp_draw (by kernel_rfl) (by kernel_rfl) fun K hK => ?_) | (refine awp_skip ?_; (first | show AWP _ _ _ _ _ | show loopQ _ _ _ _ _ _)) | (refine awp_exit ?_; (first | show AWP _ _ _ _ _ | show loopQ _ _ _ _ _ _)) | ((first | refine walkS_end (hK _ ?_) | refine walkD_end (hK _ _ (okTrace_spec (by kernel_rfl)) ?_)); clear hK K; (first | show AWP _ _ _ _ _ | show loopQ _ _ _ _ _ _)) | ((first | refine walkS_call3 rfl rfl rfl ?_ | refine walkD_call3 rfl rfl rfl ?_); simp (maxSteps := 2000000) (disch := omega) only [go_sem, ↓reduceIte, reduceCtorEq, Nat.reduceLT, Nat.reducePow, Nat.reduceLeDiff, Nat.reduceAdd, Nat.reduceMul, Nat.reduceSub, Nat.reduceEqDiff, Nat.reduceBEq, Int.reduceToNat, Int.reduceBEq, Int.reduceBNe, ty24, ty26, ty36, ty22, ty3, ty4, ty9, ty41, un4, hd, cb, eqty24, eqty26, rn, rj, q, tb]; (first | refine ⟨_, wt, ?_⟩)) | ((first | refine walkS_run1 [7] rfl ?_ | refine walkD_run1 [7] rfl ?_); simp (maxSteps := 2000000) (disch := omega) only [go_sem, ↓reduceIte, reduceCtorEq, Nat.reduceLT, Nat.reducePow, Nat.reduceLeDiff, Nat.reduceAdd, Nat.reduceMul, Nat.reduceSub, Nat.reduceEqDiff, Nat.reduceBEq, Int.reduceToNat, Int.reduceBEq, Int.reduceBNe, ty24, ty26, ty36, ty22, ty3, ty4, ty9, ty41, un4, hd, cb, eqty24, eqty26, rn, rj, q, tb]; (repeat (first | refine ⟨by omega, ?_⟩ | refine ⟨True.intro, ?_⟩)))))
            refine ⟨⟨(j + 1, true), by simp only []; omega, ar.symm⟩, by simp only []; omega, ?_⟩
            refine Weak.list ?_ ?_; (all_goals simp (disch := omega) only [AllF, AllL, le_self, le_top, lle_self, exists_eq_left', Option.some.injEq, go_sem, ↓reduceIte, reduceCtorEq, Nat.reduceLT, Nat.reducePow, Nat.reduceLeDiff, Nat.reduceAdd, Nat.reduceMul, Nat.reduceSub, Nat.reduceEqDiff, Nat.reduceBEq, Int.reduceToNat, Int.reduceBEq, Int.reduceBNe, ty24, ty26, ty36, ty22, ty3, ty4, ty9, ty41, un4, hd, cb, eqty24, eqty26, rn, rj, q, tb]); (all_goals (repeat' (with_reducible apply And.intro))); (all_goals try (first | exact le_eq rfl | (refine le_int ?_; omega) | (refine le_eq ?_; simp; done)))
          · rw [hq] at tb sb
            by_cases hl2 : j < i
            · rw [decide_eq_true hl2] at sb
              rw [sb] at ar
              (repeat (first | refine awp_seq ?_ | refine awp_yes rfl ?_ | refine awp_no rfl ?_ | refine awp_block ?_ | (refine awp_region fun K hK => ?_) | (refine awp_draw (by kernel_rfl) (by kernel_rfl) fun K hK => ?_) | (refine awp_skip ?_; (first | show AWP _ _ _ _ _ | show loopQ _ _ _ _ _ _)) | (refine awp_exit ?_; (first | show AWP _ _ _ _ _ | show loopQ _ _ _ _ _ _)) | ((first | refine walkS_end (hK _ ?_) | refine walkD_end (hK _ _ (okTrace_spec (by kernel_rfl)) ?_)); clear hK K; (first | show AWP _ _ _ _ _ | show loopQ _ _ _ _ _ _)) | ((first | refine walkS_call3 rfl rfl rfl ?_ | refine walkD_call3 rfl rfl rfl ?_); simp (maxSteps := 2000000) (disch := omega) only [go_sem, ↓reduceIte, reduceCtorEq, Nat.reduceLT, Nat.reducePow, Nat.reduceLeDiff, Nat.reduceAdd, Nat.reduceMul, Nat.reduceSub, Nat.reduceEqDiff, Nat.reduceBEq, Int.reduceToNat, Int.reduceBEq, Int.reduceBNe, ty24, ty26, ty36, ty22, ty3, ty4, ty9, ty41, un4, hd, cb, eqty24, eqty26, rn, rj, q, tb]; (first | refine ⟨_, wt, ?_⟩)) | ((first | refine walkS_run1 [7] rfl ?_ | refine walkD_run1 [7] rfl ?_); simp (maxSteps := 2000000) (disch := omega) only [go_sem, ↓reduceIte, reduceCtorEq, Nat.reduceLT, Nat.reducePow, Nat.reduceLeDiff, Nat.reduceAdd, Nat.reduceMul, Nat.reduceSub, Nat.reduceEqDiff, Nat.reduceBEq, Int.reduceToNat, Int.reduceBEq, Int.reduceBNe, ty24, ty26, ty36, ty22, ty3, ty4, ty9, ty41, un4, hd, cb, eqty24, eqty26, rn, rj, q, tb]; (repeat (first | refine ⟨by omega, ?_⟩ | refine ⟨True.intro, ?_⟩)))))
              refine ⟨⟨(j + 1, true), by simp only []; omega, ar.symm⟩, by simp only []; omega, ?_⟩
              refine Weak.list ?_ ?_; (all_goals simp (disch := omega) only [AllF, AllL, le_self, le_top, lle_self, exists_eq_left', Option.some.injEq, go_sem, ↓reduceIte, reduceCtorEq, Nat.reduceLT, Nat.reducePow, Nat.reduceLeDiff, Nat.reduceAdd, Nat.reduceMul, Nat.reduceSub, Nat.reduceEqDiff, Nat.reduceBEq, Int.reduceToNat, Int.reduceBEq, Int.reduceBNe, ty24, ty26, ty36, ty22, ty3, ty4, ty9, ty41, un4, hd, cb, eqty24, eqty26, rn, rj, q, tb]); (all_goals (repeat' (with_reducible apply And.intro))); (all_goals try (first | exact le_eq rfl | (refine le_int ?_; omega) | (refine le_eq ?_; simp; done)))
            · rw [decide_eq_false hl2] at sb
              rw [sb] at ar
              (repeat (first | refine awp_seq ?_ | refine awp_yes rfl ?_ | refine awp_no rfl ?_ | refine awp_block ?_ | (refine awp_region fun K hK => ?_) | (refine awp_draw (by kernel_rfl) (by kernel_rfl) fun K hK => ?_) | (refine awp_skip ?_; (first | show AWP _ _ _ _ _ | show loopQ _ _ _ _ _ _)) | (refine awp_exit ?_; (first | show AWP _ _ _ _ _ | show loopQ _ _ _ _ _ _)) | ((first | refine walkS_end (hK _ ?_) | refine walkD_end (hK _ _ (okTrace_spec (by kernel_rfl)) ?_)); clear hK K; (first | show AWP _ _ _ _ _ | show loopQ _ _ _ _ _ _)) | ((first | refine walkS_call3 rfl rfl rfl ?_ | refine walkD_call3 rfl rfl rfl ?_); simp (maxSteps := 2000000) (disch := omega) only [go_sem, ↓reduceIte, reduceCtorEq, Nat.reduceLT, Nat.reducePow, Nat.reduceLeDiff, Nat.reduceAdd, Nat.reduceMul, Nat.reduceSub, Nat.reduceEqDiff, Nat.reduceBEq, Int.reduceToNat, Int.reduceBEq, Int.reduceBNe, ty24, ty26, ty36, ty22, ty3, ty4, ty9, ty41, un4, hd, cb, eqty24, eqty26, rn, rj, q, tb]; (first | refine ⟨_, wt, ?_⟩)) | ((first | refine walkS_run1 [7] rfl ?_ | refine walkD_run1 [7] rfl ?_); simp (maxSteps := 2000000) (disch := omega) only [go_sem, ↓reduceIte, reduceCtorEq, Nat.reduceLT, Nat.reducePow, Nat.reduceLeDiff, Nat.reduceAdd, Nat.reduceMul, Nat.reduceSub, Nat.reduceEqDiff, Nat.reduceBEq, Int.reduceToNat, Int.reduceBEq, Int.reduceBNe, ty24, ty26, ty36, ty22, ty3, ty4, ty9, ty41, un4, hd, cb, eqty24, eqty26, rn, rj, q, tb]; (repeat (first | refine ⟨by omega, ?_⟩ | refine ⟨True.intro, ?_⟩)))))
              refine ⟨⟨(j + 1, false), by simp only []; omega, ar.symm⟩, by simp only []; omega, ?_⟩
              refine Weak.list ?_ ?_; (all_goals simp (disch := omega) only [AllF, AllL, le_self, le_top, lle_self, exists_eq_left', Option.some.injEq, go_sem, ↓reduceIte, reduceCtorEq, Nat.reduceLT, Nat.reducePow, Nat.reduceLeDiff, Nat.reduceAdd, Nat.reduceMul, Nat.reduceSub, Nat.reduceEqDiff, Nat.reduceBEq, Int.reduceToNat, Int.reduceBEq, Int.reduceBNe, ty24, ty26, ty36, ty22, ty3, ty4, ty9, ty41, un4, hd, cb, eqty24, eqty26, rn, rj, q, tb]); (all_goals (repeat' (with_reducible apply And.intro))); (all_goals try (first | exact le_eq rfl | (refine le_int ?_; omega) | (refine le_eq ?_; simp; done)))
    · have hsp : sp = spareP L i := by
        unfold spareP
        rw [hN, sn]
        simp only [Bool.not_true, Bool.or_false]
        by_cases hjl : j = L.length
        · rw [he2, hjl]
        · have : sp = true := by cases hsp : sp; exact absurd ⟨by omega, hsp⟩ hm; rfl
          rw [this] at he2 ⊢
          symm
          obtain ⟨k, hk, hk2⟩ := List.any_eq_true.1 he2.symm
          have := List.mem_range.1 hk
          exact List.any_eq_true.2 ⟨k, List.mem_range.2 (by omega), hk2⟩
      rw [← hsp] at st
      cases sp
      · have hjl : j = L.length := by
          refine Classical.byContradiction fun hne => hm ⟨by omega, rfl⟩
        subst hjl
        simp only [Bool.false_eq_true, if_false] at st
        (repeat (first | refine awp_seq ?_ | refine awp_yes rfl ?_ | refine awp_no rfl ?_ | refine awp_block ?_ | (refine awp_region fun K hK => ?_) | (refine awp_draw (by kernel_rfl) (by kernel_rfl) fun K hK => ?_) | (refine awp_skip ?_; (first | show AWP _ _ _ _ _ | show loopQ _ _ _ _ _ _)) | (refine awp_exit ?_; (first | show AWP _ _ _ _ _ | show loopQ _ _ _ _ _ _)) | ((first | refine walkS_end (hK _ ?_) | refine walkD_end (hK _ _ (okTrace_spec (by kernel_rfl)) ?_)); clear hK K; (first | show AWP _ _ _ _ _ | show loopQ _ _ _ _ _ _)) | ((first | refine walkS_run1 [7] rfl ?_ | refine walkD_run1 [7] rfl ?_); simp (maxSteps := 2000000) (disch := omega) only [go_sem, ↓reduceIte, reduceCtorEq, Nat.reduceLT, Nat.reducePow, Nat.reduceLeDiff, Nat.reduceAdd, Nat.reduceMul, Nat.reduceSub, Nat.reduceEqDiff, Nat.reduceBEq, Int.reduceToNat, Int.reduceBEq, Int.reduceBNe, ty24, ty26, ty36, ty22, ty3, ty4, ty9, ty41, un4, hd, cb, eqty24, eqty26, rn]; (repeat (first | refine ⟨by omega, ?_⟩ | refine ⟨True.intro, ?_⟩)))))
        refine ⟨⟨(i + 1, out ++ [N]), by simp only []; omega, st.symm⟩, by simp only []; omega, ?_⟩
        refine Weak.list ?_ ?_; (all_goals simp (disch := omega) only [AllF, AllL, le_self, le_top, lle_self, exists_eq_left', Option.some.injEq, go_sem, ↓reduceIte, reduceCtorEq, Nat.reduceLT, Nat.reducePow, Nat.reduceLeDiff, Nat.reduceAdd, Nat.reduceMul, Nat.reduceSub, Nat.reduceEqDiff, Nat.reduceBEq, Int.reduceToNat, Int.reduceBEq, Int.reduceBNe, ty24, ty26, ty36, ty22, ty3, ty4, ty9, ty41, un4, hd, cb, eqty24, eqty26, rn]); (all_goals (repeat' (with_reducible apply And.intro))); (all_goals try (first | exact le_eq rfl | (refine le_int ?_; omega) | (refine le_eq ?_; simp; done)))
        · exact le_grgr (by simp) (by simp) (fun k hk => rowT_put out N k hk)
        · exact lle_grow (by simp) (by simp)
      · simp only [if_true, List.append_nil] at st
        by_cases hjl : j < L.length
        all_goals
          (repeat (first | refine awp_seq ?_ | refine awp_yes rfl ?_ | refine awp_no rfl ?_ | refine awp_block ?_ | (refine awp_region fun K hK => ?_) | (refine awp_draw (by kernel_rfl) (by kernel_rfl) fun K hK => ?_) | (refine awp_skip ?_; (first | show AWP _ _ _ _ _ | show loopQ _ _ _ _ _ _)) | (refine awp_exit ?_; (first | show AWP _ _ _ _ _ | show loopQ _ _ _ _ _ _)) | ((first | refine walkS_end (hK _ ?_) | refine walkD_end (hK _ _ (okTrace_spec (by kernel_rfl)) ?_)); clear hK K; (first | show AWP _ _ _ _ _ | show loopQ _ _ _ _ _ _)) | ((first | refine walkS_run1 [7] rfl ?_ | refine walkD_run1 [7] rfl ?_); simp (maxSteps := 2000000) (disch := omega) only [go_sem, ↓reduceIte, reduceCtorEq, Nat.reduceLT, Nat.reducePow, Nat.reduceLeDiff, Nat.reduceAdd, Nat.reduceMul, Nat.reduceSub, Nat.reduceEqDiff, Nat.reduceBEq, Int.reduceToNat, Int.reduceBEq, Int.reduceBNe, ty24, ty26, ty36, ty22, ty3, ty4, ty9, ty41, un4, hd, cb, eqty24, eqty26, rn]; (repeat (first | refine ⟨by omega, ?_⟩ | refine ⟨True.intro, ?_⟩)))))
          refine ⟨⟨(i + 1, out), by simp only []; omega, st.symm⟩, by simp only []; omega, ?_⟩
          refine Weak.list ?_ ?_; (all_goals simp (disch := omega) only [AllF, AllL, le_self, le_top, lle_self, exists_eq_left', Option.some.injEq, go_sem, ↓reduceIte, reduceCtorEq, Nat.reduceLT, Nat.reducePow, Nat.reduceLeDiff, Nat.reduceAdd, Nat.reduceMul, Nat.reduceSub, Nat.reduceEqDiff, Nat.reduceBEq, Int.reduceToNat, Int.reduceBEq, Int.reduceBNe, ty24, ty26, ty36, ty22, ty3, ty4, ty9, ty41, un4, hd, cb, eqty24, eqty26, rn]); (all_goals (repeat' (with_reducible apply And.intro))); (all_goals try (first | exact le_eq rfl | (refine le_int ?_; omega) | (refine le_eq ?_; simp; done)))
  · have hil : i = L.length := by omega
    subst hil
    (repeat (first | refine awp_seq ?_ | refine awp_yes rfl ?_ | refine awp_no rfl ?_ | refine awp_block ?_ | (refine awp_region fun K hK => ?_) | (refine awp_draw (by kernel_rfl) (by kernel_rfl) fun K hK => ?_) | (refine awp_skip ?_; (first | show AWP _ _ _ _ _ | show loopQ _ _ _ _ _ _)) | (refine awp_exit ?_; (first | show AWP _ _ _ _ _ | show loopQ _ _ _ _ _ _)) | ((first | refine walkS_end (hK _ ?_) | refine walkD_end (hK _ _ (okTrace_spec (by kernel_rfl)) ?_)); clear hK K; (first | show AWP _ _ _ _ _ | show loopQ _ _ _ _ _ _)) | ((first | refine walkS_run1 [7] rfl ?_ | refine walkD_run1 [7] rfl ?_); simp (maxSteps := 2000000) (disch := omega) only [go_sem, ↓reduceIte, reduceCtorEq, Nat.reduceLT, Nat.reducePow, Nat.reduceLeDiff, Nat.reduceAdd, Nat.reduceMul, Nat.reduceSub, Nat.reduceEqDiff, Nat.reduceBEq, Int.reduceToNat, Int.reduceBEq, Int.reduceBNe, ty24, ty26, ty36, ty22, ty3, ty4, ty9, ty41, un4, hd, cb, eqty24, eqty26]; (repeat (first | refine ⟨by omega, ?_⟩ | refine ⟨True.intro, ?_⟩)))))
    refine awp_slot 2 _ (.p (.d (.sl 1 (leanP L).length (rowT (leanP L))))) rfl ?_ ?_
    · unfold leanP
      rw [← he]
      exact le_gr rfl (fun _ _ => rfl)
    refine awp_ret ⟨_, ?_, rfl⟩; rw [Try.results45]; simp (disch := omega) only [ResVars, ResVar, ptrLoc, go_sem, ↓reduceIte, reduceCtorEq, Nat.reduceLT, Nat.reducePow, Nat.reduceLeDiff, Nat.reduceAdd, Nat.reduceMul, Nat.reduceSub, Nat.reduceEqDiff, Nat.reduceBEq, Int.reduceToNat, Int.reduceBEq, Int.reduceBNe, ty24, ty26, ty36, ty22, ty3, ty4, ty9, ty41, un4, hd, cb, eqty24, eqty26]
end Go.Proofs.Ytfcfhlfehomhpaa
