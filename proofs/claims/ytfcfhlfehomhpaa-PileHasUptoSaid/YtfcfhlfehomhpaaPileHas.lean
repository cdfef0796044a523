/- PileHas: the law's call returns true. Conditions: none, but that no row is greater than memory bears. -/
import Derived.Test.YtfcfhlfehomhpaaRef5
set_option linter.unusedSimpArgs false
set_option linter.unusedVariables false
namespace Go.Proofs.Ytfcfhlfehomhpaa
open Go.Proofs.Ytfcfhlfehomhpaa.AL
theorem eqI_refl : ∀ l : List Int, eqI l l = true
  | [] => rfl
  | a :: l => by simp [eqI, eqI_refl l]
theorem pick_drop (l : List Cube) (n : Nat) (h : n < l.length) : pickP (l.drop n) = if (l.getD n ⟨0, 0⟩).sound then some (l.getD n ⟨0, 0⟩) else pickP (l.drop (n + 1)) := by
  unfold pickP
  rw [drop_getD l n ⟨0, 0⟩ h, List.find?_cons]
  cases (l.getD n ⟨0, 0⟩).sound <;> rfl
def pileHasI (l : List Cube) (h : BitVec 128) (k : Fin (l.length + 1)) : ASt :=
  ⟨[(9, .p (.d (.v (.int .i64 ((k.val : Int) - 1))))), (8, .p (.d (.v (.bool (pickP (l.drop k.val)).isSome)))), (7, .loc 7 0), (6, .p (.d (.v (.bool (soundP l))))), (3, .p (.d (.bx (hd h)))), (0, .p (.d (.sl 4 l.length (rowC l))))],
   [(7, .cells 24 [.p (.d (.v (.int .u64 (hi ((pickP (l.drop k.val)).getD ⟨0, 0⟩).v)))), .p (.d (.v (.int .u64 (lo ((pickP (l.drop k.val)).getD ⟨0, 0⟩).v))))])]⟩
set_option maxRecDepth 100000 in
set_option maxHeartbeats 1000000 in
theorem PileHas_c (l : List Cube) (h : BitVec 128) (hl : l.length ≤ 1099511627776) : ACalls Try.prog 10 [.d (.sl 4 l.length (rowC l)), .agg (hd h)] (· = [.d (.v (.bool true))]) := by
  have tx := Texts_c l hl
  have pk := Pick_c l (by omega)
  have sd := SoundP_c l (by omega)
  have h1 := HasP_c l h (by omega)
  have h2 := HasR_c l h hl
  generalize hV : textsV l = V at tx
  generalize rowT V = rv at tx
  refine acalls_of_awp Try.func10 rfl (by decide +kernel) (by rw [Try.ntmps10]; simp) ?_; rw [Try.ntmps10]; simp only [frOf]
  (repeat (first | refine awp_seq ?_ | refine awp_yes rfl ?_ | refine awp_no rfl ?_ | refine awp_block ?_ | (refine awp_region fun K hK => ?_) | (refine awp_draw (by kernel_rfl) (by kernel_rfl) fun K hK => ?_) | (refine awp_skip ?_; (first | show AWP _ _ _ _ _ | show loopQ _ _ _ _ _ _)) | (refine awp_exit ?_; (first | show AWP _ _ _ _ _ | show loopQ _ _ _ _ _ _)) | ((first | refine walkS_end (hK _ ?_) | refine walkD_end (hK _ _ (okTrace_spec (by kernel_rfl)) ?_)); clear hK K; (first | show AWP _ _ _ _ _ | show loopQ _ _ _ _ _ _)) | ((first | refine walkS_call3 rfl rfl rfl ?_ | refine walkD_call3 rfl rfl rfl ?_); simp (maxSteps := 2000000) (disch := omega) only [go_sem, ↓reduceIte, reduceCtorEq, Nat.reduceLT, Nat.reducePow, Nat.reduceLeDiff, Nat.reduceAdd, Nat.reduceMul, Nat.reduceSub, Nat.reduceEqDiff, Nat.reduceBEq, Int.reduceToNat, Int.reduceBEq, Int.reduceBNe, ty24, ty26, ty36, ty22, ty3, ty4, ty9, ty41, un4, hd, cb, eqty24, eqty26, hi_zero, lo_zero]; (first | refine ⟨_, tx, ?_⟩)) | ((first | refine walkS_run1 [] rfl ?_ | refine walkD_run1 [] rfl ?_); simp (maxSteps := 2000000) (disch := omega) only [go_sem, ↓reduceIte, reduceCtorEq, Nat.reduceLT, Nat.reducePow, Nat.reduceLeDiff, Nat.reduceAdd, Nat.reduceMul, Nat.reduceSub, Nat.reduceEqDiff, Nat.reduceBEq, Int.reduceToNat, Int.reduceBEq, Int.reduceBNe, ty24, ty26, ty36, ty22, ty3, ty4, ty9, ty41, un4, hd, cb, eqty24, eqty26, hi_zero, lo_zero]; (repeat (first | refine ⟨by omega, ?_⟩ | refine ⟨True.intro, ?_⟩)))))
  refine awp_loop (pileHasI l h) (fun k => k.val) ⟨l.length, by omega⟩ ?_ (fun s => ?_)
  · unfold pileHasI
    rw [List.drop_length, show pickP [] = none from rfl]
    refine Weak.list ?_ ?_; (all_goals simp (disch := omega) only [AllF, AllL, le_self, le_top, lle_self, exists_eq_left', Option.some.injEq, go_sem, ↓reduceIte, reduceCtorEq, Nat.reduceLT, Nat.reducePow, Nat.reduceLeDiff, Nat.reduceAdd, Nat.reduceMul, Nat.reduceSub, Nat.reduceEqDiff, Nat.reduceBEq, Int.reduceToNat, Int.reduceBEq, Int.reduceBNe, ty24, ty26, ty36, ty22, ty3, ty4, ty9, ty41, un4, hd, cb, eqty24, eqty26, hi_zero, lo_zero]); (all_goals (repeat' (with_reducible apply And.intro))); (all_goals try (first | exact le_eq rfl | (refine le_int ?_; omega) | (refine le_eq ?_; simp; done)))
  obtain ⟨k, hk⟩ := s
  unfold pileHasI
  cases k with
  | zero =>
    have e1 := eqI_refl [hi ((pickP l).getD ⟨0, 0⟩).v, lo ((pickP l).getD ⟨0, 0⟩).v]
    simp only [List.drop_zero]
    generalize ((pickP l).getD ⟨0, 0⟩).v = pv at pk e1
    generalize (pickP l).isSome = pb at pk
    generalize hasP l h = ph at h1 h2
    generalize soundP l = ps at sd
    (repeat ((fail_if_success (show AWP _ _ (.region 9 _ _) _ _)); first | refine awp_seq ?_ | refine awp_yes rfl ?_ | refine awp_no rfl ?_ | refine awp_block ?_ | (refine awp_region fun K hK => ?_) | (refine awp_draw (by kernel_rfl) (by kernel_rfl) fun K hK => ?_) | (refine awp_skip ?_; (first | show AWP _ _ _ _ _ | show loopQ _ _ _ _ _ _)) | (refine awp_exit ?_; (first | show AWP _ _ _ _ _ | show loopQ _ _ _ _ _ _)) | ((first | refine walkS_end (hK _ ?_) | refine walkD_end (hK _ _ (okTrace_spec (by kernel_rfl)) ?_)); clear hK K; (first | show AWP _ _ _ _ _ | show loopQ _ _ _ _ _ _)) | ((first | refine walkS_run1 [] rfl ?_ | refine walkD_run1 [] rfl ?_); simp (maxSteps := 2000000) (disch := omega) only [go_sem, ↓reduceIte, reduceCtorEq, Nat.reduceLT, Nat.reducePow, Nat.reduceLeDiff, Nat.reduceAdd, Nat.reduceMul, Nat.reduceSub, Nat.reduceEqDiff, Nat.reduceBEq, Int.reduceToNat, Int.reduceBEq, Int.reduceBNe, ty24, ty26, ty36, ty22, ty3, ty4, ty9, ty41, un4, hd, cb, eqty24, eqty26, hi_zero, lo_zero, e1]; (repeat (first | refine ⟨by omega, ?_⟩ | refine ⟨True.intro, ?_⟩)))))
    cases ps <;> cases ph <;> cases pb
    all_goals
      (repeat (first | refine awp_seq ?_ | refine awp_yes rfl ?_ | refine awp_no rfl ?_ | refine awp_block ?_ | (refine awp_region fun K hK => ?_) | (refine awp_draw (by kernel_rfl) (by kernel_rfl) fun K hK => ?_) | (refine awp_skip ?_; (first | show AWP _ _ _ _ _ | show loopQ _ _ _ _ _ _)) | (refine awp_exit ?_; (first | show AWP _ _ _ _ _ | show loopQ _ _ _ _ _ _)) | ((first | refine walkS_end (hK _ ?_) | refine walkD_end (hK _ _ (okTrace_spec (by kernel_rfl)) ?_)); clear hK K; (first | show AWP _ _ _ _ _ | show loopQ _ _ _ _ _ _)) | ((first | refine walkS_call3 rfl rfl rfl ?_ | refine walkD_call3 rfl rfl rfl ?_); simp (maxSteps := 2000000) (disch := omega) only [go_sem, ↓reduceIte, reduceCtorEq, Nat.reduceLT, Nat.reducePow, Nat.reduceLeDiff, Nat.reduceAdd, Nat.reduceMul, Nat.reduceSub, Nat.reduceEqDiff, Nat.reduceBEq, Int.reduceToNat, Int.reduceBEq, Int.reduceBNe, ty24, ty26, ty36, ty22, ty3, ty4, ty9, ty41, un4, hd, cb, eqty24, eqty26, hi_zero, lo_zero, e1]; (first | refine ⟨_, pk, ?_⟩ | refine ⟨_, sd, ?_⟩ | refine ⟨_, h1, ?_⟩ | refine ⟨_, h2, ?_⟩ | refine ⟨_, awake3_c, ?_⟩)) | ((first | refine walkS_run1 [] rfl ?_ | refine walkD_run1 [] rfl ?_); simp (maxSteps := 2000000) (disch := omega) only [go_sem, ↓reduceIte, reduceCtorEq, Nat.reduceLT, Nat.reducePow, Nat.reduceLeDiff, Nat.reduceAdd, Nat.reduceMul, Nat.reduceSub, Nat.reduceEqDiff, Nat.reduceBEq, Int.reduceToNat, Int.reduceBEq, Int.reduceBNe, ty24, ty26, ty36, ty22, ty3, ty4, ty9, ty41, un4, hd, cb, eqty24, eqty26, hi_zero, lo_zero, e1]; (repeat (first | refine ⟨by omega, ?_⟩ | refine ⟨True.intro, ?_⟩)))))
      refine awp_ret ⟨_, ?_, rfl⟩; rw [Try.results10]; simp (disch := omega) only [ResVars, ResVar, ptrLoc, go_sem, ↓reduceIte, reduceCtorEq, Nat.reduceLT, Nat.reducePow, Nat.reduceLeDiff, Nat.reduceAdd, Nat.reduceMul, Nat.reduceSub, Nat.reduceEqDiff, Nat.reduceBEq, Int.reduceToNat, Int.reduceBEq, Int.reduceBNe, ty24, ty26, ty36, ty22, ty3, ty4, ty9, ty41, un4, hd, cb, eqty24, eqty26, hi_zero, lo_zero, e1]
  | succ n =>
    have hn : n < l.length := by omega
    have pd := pick_drop l n hn
    have r1 := rowC_at l n
    generalize l.getD n ⟨0, 0⟩ = K at pd r1
    have tk := Text_c K
    generalize hd1 : pickP (l.drop (n + 1)) = D at pd
    simp only [cs1]
    cases hs : K.sound
    all_goals
      rw [hs] at tk pd
      simp only [Bool.false_eq_true, if_false, if_true] at tk pd
      generalize (_ : ByteArray) = sk at tk
      (repeat (first | refine awp_seq ?_ | refine awp_yes rfl ?_ | refine awp_no rfl ?_ | refine awp_block ?_ | (refine awp_region fun K hK => ?_) | (refine awp_draw (by kernel_rfl) (by kernel_rfl) fun K hK => ?_) | (refine awp_skip ?_; (first | show AWP _ _ _ _ _ | show loopQ _ _ _ _ _ _)) | (refine awp_exit ?_; (first | show AWP _ _ _ _ _ | show loopQ _ _ _ _ _ _)) | ((first | refine walkS_end (hK _ ?_) | refine walkD_end (hK _ _ (okTrace_spec (by kernel_rfl)) ?_)); clear hK K; (first | show AWP _ _ _ _ _ | show loopQ _ _ _ _ _ _)) | ((first | refine walkS_call3 rfl rfl rfl ?_ | refine walkD_call3 rfl rfl rfl ?_); simp (maxSteps := 2000000) (disch := omega) only [go_sem, ↓reduceIte, reduceCtorEq, Nat.reduceLT, Nat.reducePow, Nat.reduceLeDiff, Nat.reduceAdd, Nat.reduceMul, Nat.reduceSub, Nat.reduceEqDiff, Nat.reduceBEq, Int.reduceToNat, Int.reduceBEq, Int.reduceBNe, ty24, ty26, ty36, ty22, ty3, ty4, ty9, ty41, un4, hd, cb, eqty24, eqty26, hi_zero, lo_zero, r1]; (first | refine ⟨_, tk, ?_⟩)) | ((first | refine walkS_run1 [] rfl ?_ | refine walkD_run1 [] rfl ?_); simp (maxSteps := 2000000) (disch := omega) only [go_sem, ↓reduceIte, reduceCtorEq, Nat.reduceLT, Nat.reducePow, Nat.reduceLeDiff, Nat.reduceAdd, Nat.reduceMul, Nat.reduceSub, Nat.reduceEqDiff, Nat.reduceBEq, Int.reduceToNat, Int.reduceBEq, Int.reduceBNe, ty24, ty26, ty36, ty22, ty3, ty4, ty9, ty41, un4, hd, cb, eqty24, eqty26, hi_zero, lo_zero, r1]; (repeat (first | refine ⟨by omega, ?_⟩ | refine ⟨True.intro, ?_⟩)))))
      refine ⟨⟨n, by omega⟩, by simp only []; omega, ?_⟩
      simp only [pd]
      refine Weak.list ?_ ?_; (all_goals simp (disch := omega) only [AllF, AllL, le_self, le_top, lle_self, exists_eq_left', Option.some.injEq, go_sem, ↓reduceIte, reduceCtorEq, Nat.reduceLT, Nat.reducePow, Nat.reduceLeDiff, Nat.reduceAdd, Nat.reduceMul, Nat.reduceSub, Nat.reduceEqDiff, Nat.reduceBEq, Int.reduceToNat, Int.reduceBEq, Int.reduceBNe, ty24, ty26, ty36, ty22, ty3, ty4, ty9, ty41, un4, hd, cb, eqty24, eqty26, hi_zero, lo_zero, r1]); (all_goals (repeat' (with_reducible apply And.intro))); (all_goals try (first | exact le_eq rfl | (refine le_int ?_; omega) | (refine le_eq ?_; simp; done)))
end Go.Proofs.Ytfcfhlfehomhpaa
