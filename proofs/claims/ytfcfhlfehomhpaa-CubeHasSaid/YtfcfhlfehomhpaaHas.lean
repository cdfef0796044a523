/- CubeHas: the law's call returns true. Conditions: none. -/
import Derived.Test.YtfcfhlfehomhpaaRow
set_option linter.unusedSimpArgs false
set_option linter.unusedVariables false
namespace Go.Proofs.Ytfcfhlfehomhpaa
open Go.Proofs.Ytfcfhlfehomhpaa.AL Go.ChangeShapes Go.WideShapes Go.ChangeAt Go.RowKit
theorem and_sound {k : Cube} (h : k.sound = true) : k.v &&& k.c = k.v := by
  have := (sound_iff k).1 h
  apply BitVec.eq_of_getLsbD_eq
  intro i hlt
  rw [BitVec.getLsbD_and]
  cases hv : k.v.getLsbD i
  · rfl
  · rw [this i hlt hv]; rfl
theorem CubeHas_c (k : Cube) (x : BitVec 128) : ACalls Try.prog 3 [.agg (cb k), .agg (hd x)] (· = [.d (.v (.bool true))]) := by
  have text := Text_c k
  have snd := Sound_c k
  have has := Has_c k x
  unfold hasC at has
  cases h : k.sound
  · rw [h] at text snd has
    rw [Bool.false_and] at has
    simp only [Bool.false_eq_true, if_false] at text
    refine acalls_of_awp Try.func3 rfl (by decide +kernel) (by rw [Try.ntmps3]; simp) ?_; rw [Try.ntmps3]; simp only [frOf]
    (repeat refine awp_seq ?_); (first | refine awp_region fun K hK => ?_ | refine awp_draw (by kernel_rfl) (by kernel_rfl) fun K hK => ?_); (first | refine walkS_run [] _ _ ?_ | refine walkD_run [] _ _ _ ?_); simp (maxSteps := 2000000) (disch := omega) only [go_sem, ↓reduceIte, reduceCtorEq, Nat.reduceLT, Nat.reducePow, Nat.reduceLeDiff, Nat.reduceAdd, Nat.reduceMul, Nat.reduceSub, Nat.reduceEqDiff, Nat.reduceBEq, Int.reduceToNat, Int.reduceBEq, Int.reduceBNe, ty24, ty26, ty22, ty3, ty4, un4, ty9, hd, cb]; (repeat refine ⟨by omega, ?_⟩); (first | (refine hK _ ?_; clear hK K; show AWP _ _ _ _ _) | (refine hK _ _ (okTrace_spec (by kernel_rfl)) ?_; clear hK K; show AWP _ _ _ _ _))
    (repeat refine awp_seq ?_); (first | refine awp_region fun K hK => ?_ | refine awp_draw (by kernel_rfl) (by kernel_rfl) fun K hK => ?_)
    (first | refine walkS_run [] _ _ ?_ | refine walkD_run [] _ _ _ ?_); simp (maxSteps := 2000000) (disch := omega) only [go_sem, ↓reduceIte, reduceCtorEq, Nat.reduceLT, Nat.reducePow, Nat.reduceLeDiff, Nat.reduceAdd, Nat.reduceMul, Nat.reduceSub, Nat.reduceEqDiff, Nat.reduceBEq, Int.reduceToNat, Int.reduceBEq, Int.reduceBNe, ty24, ty26, ty22, ty3, ty4, un4, ty9, hd, cb]; (repeat refine ⟨by omega, ?_⟩)
    (first | refine walkS_call3 rfl rfl rfl ?_ | refine walkD_call3 rfl rfl rfl ?_); simp (maxSteps := 2000000) (disch := omega) only [go_sem, ↓reduceIte, reduceCtorEq, Nat.reduceLT, Nat.reducePow, Nat.reduceLeDiff, Nat.reduceAdd, Nat.reduceMul, Nat.reduceSub, Nat.reduceEqDiff, Nat.reduceBEq, Int.reduceToNat, Int.reduceBEq, Int.reduceBNe, ty24, ty26, ty22, ty3, ty4, un4, ty9, hd, cb]
    refine ⟨_, text, ?_⟩
    (first | refine walkS_run [] _ _ ?_ | refine walkD_run [] _ _ _ ?_); simp (maxSteps := 2000000) (disch := omega) only [go_sem, ↓reduceIte, reduceCtorEq, Nat.reduceLT, Nat.reducePow, Nat.reduceLeDiff, Nat.reduceAdd, Nat.reduceMul, Nat.reduceSub, Nat.reduceEqDiff, Nat.reduceBEq, Int.reduceToNat, Int.reduceBEq, Int.reduceBNe, ty24, ty26, ty22, ty3, ty4, un4, ty9, hd, cb]; (repeat refine ⟨by omega, ?_⟩)
    (first | (refine hK _ ?_; clear hK K; show AWP _ _ _ _ _) | (refine hK _ _ (okTrace_spec (by kernel_rfl)) ?_; clear hK K; show AWP _ _ _ _ _))
    (repeat refine awp_seq ?_); (first | refine awp_region fun K hK => ?_ | refine awp_draw (by kernel_rfl) (by kernel_rfl) fun K hK => ?_)
    (first | refine walkS_run [] _ _ ?_ | refine walkD_run [] _ _ _ ?_); simp (maxSteps := 2000000) (disch := omega) only [go_sem, ↓reduceIte, reduceCtorEq, Nat.reduceLT, Nat.reducePow, Nat.reduceLeDiff, Nat.reduceAdd, Nat.reduceMul, Nat.reduceSub, Nat.reduceEqDiff, Nat.reduceBEq, Int.reduceToNat, Int.reduceBEq, Int.reduceBNe, ty24, ty26, ty22, ty3, ty4, un4, ty9, hd, cb]; (repeat refine ⟨by omega, ?_⟩)
    (first | refine walkS_call3 rfl rfl rfl ?_ | refine walkD_call3 rfl rfl rfl ?_); simp (maxSteps := 2000000) (disch := omega) only [go_sem, ↓reduceIte, reduceCtorEq, Nat.reduceLT, Nat.reducePow, Nat.reduceLeDiff, Nat.reduceAdd, Nat.reduceMul, Nat.reduceSub, Nat.reduceEqDiff, Nat.reduceBEq, Int.reduceToNat, Int.reduceBEq, Int.reduceBNe, ty24, ty26, ty22, ty3, ty4, un4, ty9, hd, cb]
    refine ⟨_, awake2_c, ?_⟩
    (first | refine walkS_run [] _ _ ?_ | refine walkD_run [] _ _ _ ?_); simp (maxSteps := 2000000) (disch := omega) only [go_sem, ↓reduceIte, reduceCtorEq, Nat.reduceLT, Nat.reducePow, Nat.reduceLeDiff, Nat.reduceAdd, Nat.reduceMul, Nat.reduceSub, Nat.reduceEqDiff, Nat.reduceBEq, Int.reduceToNat, Int.reduceBEq, Int.reduceBNe, ty24, ty26, ty22, ty3, ty4, un4, ty9, hd, cb]; (repeat refine ⟨by omega, ?_⟩)
    (first | refine walkS_call3 rfl rfl rfl ?_ | refine walkD_call3 rfl rfl rfl ?_); simp (maxSteps := 2000000) (disch := omega) only [go_sem, ↓reduceIte, reduceCtorEq, Nat.reduceLT, Nat.reducePow, Nat.reduceLeDiff, Nat.reduceAdd, Nat.reduceMul, Nat.reduceSub, Nat.reduceEqDiff, Nat.reduceBEq, Int.reduceToNat, Int.reduceBEq, Int.reduceBNe, ty24, ty26, ty22, ty3, ty4, un4, ty9, hd, cb]
    refine ⟨_, snd, ?_⟩
    (first | refine walkS_run [] _ _ ?_ | refine walkD_run [] _ _ _ ?_); simp (maxSteps := 2000000) (disch := omega) only [go_sem, ↓reduceIte, reduceCtorEq, Nat.reduceLT, Nat.reducePow, Nat.reduceLeDiff, Nat.reduceAdd, Nat.reduceMul, Nat.reduceSub, Nat.reduceEqDiff, Nat.reduceBEq, Int.reduceToNat, Int.reduceBEq, Int.reduceBNe, ty24, ty26, ty22, ty3, ty4, un4, ty9, hd, cb]; (repeat refine ⟨by omega, ?_⟩)
    (first | refine walkS_call3 rfl rfl rfl ?_ | refine walkD_call3 rfl rfl rfl ?_); simp (maxSteps := 2000000) (disch := omega) only [go_sem, ↓reduceIte, reduceCtorEq, Nat.reduceLT, Nat.reducePow, Nat.reduceLeDiff, Nat.reduceAdd, Nat.reduceMul, Nat.reduceSub, Nat.reduceEqDiff, Nat.reduceBEq, Int.reduceToNat, Int.reduceBEq, Int.reduceBNe, ty24, ty26, ty22, ty3, ty4, un4, ty9, hd, cb]
    refine ⟨_, has, ?_⟩
    (first | refine walkS_run [] _ _ ?_ | refine walkD_run [] _ _ _ ?_); simp (maxSteps := 2000000) (disch := omega) only [go_sem, ↓reduceIte, reduceCtorEq, Nat.reduceLT, Nat.reducePow, Nat.reduceLeDiff, Nat.reduceAdd, Nat.reduceMul, Nat.reduceSub, Nat.reduceEqDiff, Nat.reduceBEq, Int.reduceToNat, Int.reduceBEq, Int.reduceBNe, ty24, ty26, ty22, ty3, ty4, un4, ty9, hd, cb]; (repeat refine ⟨by omega, ?_⟩)
    (first | (refine hK _ ?_; clear hK K; show AWP _ _ _ _ _) | (refine hK _ _ (okTrace_spec (by kernel_rfl)) ?_; clear hK K; show AWP _ _ _ _ _))
    refine awp_ret ⟨_, ?_, rfl⟩; rw [Try.results3]; simp (disch := omega) only [ResVars, ResVar, ptrLoc, go_sem, ↓reduceIte, reduceCtorEq, Nat.reduceLT, Nat.reducePow, Nat.reduceLeDiff, Nat.reduceAdd, Nat.reduceMul, Nat.reduceSub, Nat.reduceEqDiff, Nat.reduceBEq, Int.reduceToNat, Int.reduceBEq, Int.reduceBNe, ty24, ty26, ty22, ty3, ty4, un4, ty9, hd, cb]
  · rw [h] at text snd has
    rw [Bool.true_and] at has
    simp only [if_true] at text
    have hast := Hast_c k x
    unfold hasT at hast
    rw [and_sound h] at hast
    generalize (x &&& k.c == k.v) = q at has hast
    cases q
    all_goals
      refine acalls_of_awp Try.func3 rfl (by decide +kernel) (by rw [Try.ntmps3]; simp) ?_; rw [Try.ntmps3]; simp only [frOf]
      (repeat refine awp_seq ?_); (first | refine awp_region fun K hK => ?_ | refine awp_draw (by kernel_rfl) (by kernel_rfl) fun K hK => ?_); (first | refine walkS_run [] _ _ ?_ | refine walkD_run [] _ _ _ ?_); simp (maxSteps := 2000000) (disch := omega) only [go_sem, ↓reduceIte, reduceCtorEq, Nat.reduceLT, Nat.reducePow, Nat.reduceLeDiff, Nat.reduceAdd, Nat.reduceMul, Nat.reduceSub, Nat.reduceEqDiff, Nat.reduceBEq, Int.reduceToNat, Int.reduceBEq, Int.reduceBNe, ty24, ty26, ty22, ty3, ty4, un4, ty9, hd, cb]; (repeat refine ⟨by omega, ?_⟩); (first | (refine hK _ ?_; clear hK K; show AWP _ _ _ _ _) | (refine hK _ _ (okTrace_spec (by kernel_rfl)) ?_; clear hK K; show AWP _ _ _ _ _))
      (repeat refine awp_seq ?_); (first | refine awp_region fun K hK => ?_ | refine awp_draw (by kernel_rfl) (by kernel_rfl) fun K hK => ?_)
      (first | refine walkS_run [] _ _ ?_ | refine walkD_run [] _ _ _ ?_); simp (maxSteps := 2000000) (disch := omega) only [go_sem, ↓reduceIte, reduceCtorEq, Nat.reduceLT, Nat.reducePow, Nat.reduceLeDiff, Nat.reduceAdd, Nat.reduceMul, Nat.reduceSub, Nat.reduceEqDiff, Nat.reduceBEq, Int.reduceToNat, Int.reduceBEq, Int.reduceBNe, ty24, ty26, ty22, ty3, ty4, un4, ty9, hd, cb]; (repeat refine ⟨by omega, ?_⟩)
      (first | refine walkS_call3 rfl rfl rfl ?_ | refine walkD_call3 rfl rfl rfl ?_); simp (maxSteps := 2000000) (disch := omega) only [go_sem, ↓reduceIte, reduceCtorEq, Nat.reduceLT, Nat.reducePow, Nat.reduceLeDiff, Nat.reduceAdd, Nat.reduceMul, Nat.reduceSub, Nat.reduceEqDiff, Nat.reduceBEq, Int.reduceToNat, Int.reduceBEq, Int.reduceBNe, ty24, ty26, ty22, ty3, ty4, un4, ty9, hd, cb]
      refine ⟨_, text, ?_⟩
      (first | refine walkS_run [] _ _ ?_ | refine walkD_run [] _ _ _ ?_); simp (maxSteps := 2000000) (disch := omega) only [go_sem, ↓reduceIte, reduceCtorEq, Nat.reduceLT, Nat.reducePow, Nat.reduceLeDiff, Nat.reduceAdd, Nat.reduceMul, Nat.reduceSub, Nat.reduceEqDiff, Nat.reduceBEq, Int.reduceToNat, Int.reduceBEq, Int.reduceBNe, ty24, ty26, ty22, ty3, ty4, un4, ty9, hd, cb]; (repeat refine ⟨by omega, ?_⟩)
      (first | (refine hK _ ?_; clear hK K; show AWP _ _ _ _ _) | (refine hK _ _ (okTrace_spec (by kernel_rfl)) ?_; clear hK K; show AWP _ _ _ _ _))
      (repeat refine awp_seq ?_); (first | refine awp_region fun K hK => ?_ | refine awp_draw (by kernel_rfl) (by kernel_rfl) fun K hK => ?_)
      (first | refine walkS_run [] _ _ ?_ | refine walkD_run [] _ _ _ ?_); simp (maxSteps := 2000000) (disch := omega) only [go_sem, ↓reduceIte, reduceCtorEq, Nat.reduceLT, Nat.reducePow, Nat.reduceLeDiff, Nat.reduceAdd, Nat.reduceMul, Nat.reduceSub, Nat.reduceEqDiff, Nat.reduceBEq, Int.reduceToNat, Int.reduceBEq, Int.reduceBNe, ty24, ty26, ty22, ty3, ty4, un4, ty9, hd, cb]; (repeat refine ⟨by omega, ?_⟩)
      (first | refine walkS_call3 rfl rfl rfl ?_ | refine walkD_call3 rfl rfl rfl ?_); simp (maxSteps := 2000000) (disch := omega) only [go_sem, ↓reduceIte, reduceCtorEq, Nat.reduceLT, Nat.reducePow, Nat.reduceLeDiff, Nat.reduceAdd, Nat.reduceMul, Nat.reduceSub, Nat.reduceEqDiff, Nat.reduceBEq, Int.reduceToNat, Int.reduceBEq, Int.reduceBNe, ty24, ty26, ty22, ty3, ty4, un4, ty9, hd, cb]
      refine ⟨_, awake2_c, ?_⟩
      (first | refine walkS_run [] _ _ ?_ | refine walkD_run [] _ _ _ ?_); simp (maxSteps := 2000000) (disch := omega) only [go_sem, ↓reduceIte, reduceCtorEq, Nat.reduceLT, Nat.reducePow, Nat.reduceLeDiff, Nat.reduceAdd, Nat.reduceMul, Nat.reduceSub, Nat.reduceEqDiff, Nat.reduceBEq, Int.reduceToNat, Int.reduceBEq, Int.reduceBNe, ty24, ty26, ty22, ty3, ty4, un4, ty9, hd, cb]; (repeat refine ⟨by omega, ?_⟩)
      (first | refine walkS_call3 rfl rfl rfl ?_ | refine walkD_call3 rfl rfl rfl ?_); simp (maxSteps := 2000000) (disch := omega) only [go_sem, ↓reduceIte, reduceCtorEq, Nat.reduceLT, Nat.reducePow, Nat.reduceLeDiff, Nat.reduceAdd, Nat.reduceMul, Nat.reduceSub, Nat.reduceEqDiff, Nat.reduceBEq, Int.reduceToNat, Int.reduceBEq, Int.reduceBNe, ty24, ty26, ty22, ty3, ty4, un4, ty9, hd, cb]
      refine ⟨_, snd, ?_⟩
      (first | refine walkS_run [] _ _ ?_ | refine walkD_run [] _ _ _ ?_); simp (maxSteps := 2000000) (disch := omega) only [go_sem, ↓reduceIte, reduceCtorEq, Nat.reduceLT, Nat.reducePow, Nat.reduceLeDiff, Nat.reduceAdd, Nat.reduceMul, Nat.reduceSub, Nat.reduceEqDiff, Nat.reduceBEq, Int.reduceToNat, Int.reduceBEq, Int.reduceBNe, ty24, ty26, ty22, ty3, ty4, un4, ty9, hd, cb]; (repeat refine ⟨by omega, ?_⟩)
      (first | refine walkS_call3 rfl rfl rfl ?_ | refine walkD_call3 rfl rfl rfl ?_); simp (maxSteps := 2000000) (disch := omega) only [go_sem, ↓reduceIte, reduceCtorEq, Nat.reduceLT, Nat.reducePow, Nat.reduceLeDiff, Nat.reduceAdd, Nat.reduceMul, Nat.reduceSub, Nat.reduceEqDiff, Nat.reduceBEq, Int.reduceToNat, Int.reduceBEq, Int.reduceBNe, ty24, ty26, ty22, ty3, ty4, un4, ty9, hd, cb]
      refine ⟨_, has, ?_⟩
      (first | refine walkS_run [] _ _ ?_ | refine walkD_run [] _ _ _ ?_); simp (maxSteps := 2000000) (disch := omega) only [go_sem, ↓reduceIte, reduceCtorEq, Nat.reduceLT, Nat.reducePow, Nat.reduceLeDiff, Nat.reduceAdd, Nat.reduceMul, Nat.reduceSub, Nat.reduceEqDiff, Nat.reduceBEq, Int.reduceToNat, Int.reduceBEq, Int.reduceBNe, ty24, ty26, ty22, ty3, ty4, un4, ty9, hd, cb]; (repeat refine ⟨by omega, ?_⟩)
      (first | refine walkS_call3 rfl rfl rfl ?_ | refine walkD_call3 rfl rfl rfl ?_); simp (maxSteps := 2000000) (disch := omega) only [go_sem, ↓reduceIte, reduceCtorEq, Nat.reduceLT, Nat.reducePow, Nat.reduceLeDiff, Nat.reduceAdd, Nat.reduceMul, Nat.reduceSub, Nat.reduceEqDiff, Nat.reduceBEq, Int.reduceToNat, Int.reduceBEq, Int.reduceBNe, ty24, ty26, ty22, ty3, ty4, un4, ty9, hd, cb]
      refine ⟨_, hast, ?_⟩
      (first | refine walkS_run [] _ _ ?_ | refine walkD_run [] _ _ _ ?_); simp (maxSteps := 2000000) (disch := omega) only [go_sem, ↓reduceIte, reduceCtorEq, Nat.reduceLT, Nat.reducePow, Nat.reduceLeDiff, Nat.reduceAdd, Nat.reduceMul, Nat.reduceSub, Nat.reduceEqDiff, Nat.reduceBEq, Int.reduceToNat, Int.reduceBEq, Int.reduceBNe, ty24, ty26, ty22, ty3, ty4, un4, ty9, hd, cb]; (repeat refine ⟨by omega, ?_⟩)
      (first | (refine hK _ ?_; clear hK K; show AWP _ _ _ _ _) | (refine hK _ _ (okTrace_spec (by kernel_rfl)) ?_; clear hK K; show AWP _ _ _ _ _))
      refine awp_ret ⟨_, ?_, rfl⟩; rw [Try.results3]; simp (disch := omega) only [ResVars, ResVar, ptrLoc, go_sem, ↓reduceIte, reduceCtorEq, Nat.reduceLT, Nat.reducePow, Nat.reduceLeDiff, Nat.reduceAdd, Nat.reduceMul, Nat.reduceSub, Nat.reduceEqDiff, Nat.reduceBEq, Int.reduceToNat, Int.reduceBEq, Int.reduceBNe, ty24, ty26, ty22, ty3, ty4, un4, ty9, hd, cb]
end Go.Proofs.Ytfcfhlfehomhpaa
