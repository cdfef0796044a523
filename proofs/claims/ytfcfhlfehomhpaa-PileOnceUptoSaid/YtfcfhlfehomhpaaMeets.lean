/- The laws of layer 2: the call of each returns true. Conditions: none. -/
import Derived.Test.YtfcfhlfehomhpaaRef4
import Derived.Test.YtfcfhlfehomhpaaAwake2
set_option linter.unusedSimpArgs false
set_option linter.unusedVariables false
namespace Go.Proofs.Ytfcfhlfehomhpaa
open Go.Proofs.Ytfcfhlfehomhpaa.AL
theorem eqI_self : ∀ l : List Int, eqI l l = true
  | [] => rfl
  | a :: l => by simp [eqI, eqI_self l]
theorem and_sound {k : Cube} (h : k.sound = true) : k.v &&& k.c = k.v := by
  have := (sound_iff k).1 h
  apply BitVec.eq_of_getLsbD_eq
  intro i hlt
  rw [BitVec.getLsbD_and]
  cases hv : k.v.getLsbD i
  · rfl
  · rw [this i hlt hv]; rfl
theorem andC {k : Cube} (h : k.sound = true) : (⟨k.v &&& k.c, k.c⟩ : Cube) = k := by rw [and_sound h]
theorem sound_meet {a b : Cube} (h : meetO a b = true) : (meetV a b).sound = true := by
  unfold meetO at h
  simp only [Bool.and_eq_true] at h
  have ha := (sound_iff a).1 h.1.1; have hb := (sound_iff b).1 h.1.2
  unfold meetV meetO
  rw [h.1.1, h.1.2, h.2]
  refine (sound_iff _).2 fun i hi hv => ?_
  simp only [Bool.and_self, if_true, BitVec.getLsbD_or, Bool.or_eq_true] at hv ⊢
  exact hv.imp (ha i hi) (hb i hi)
theorem meet_text {a b : Cube} (ha : a.sound = true) (hb : b.sound = true) : meetT a b = ⟨a.v ||| b.v, a.c ||| b.c⟩ := by
  unfold meetT; rw [and_sound ha, and_sound hb]
set_option maxRecDepth 100000 in
set_option maxHeartbeats 400000 in
theorem CubeMeets_c (a b : Cube) : ACalls Try.prog 4 [.agg (cb a), .agg (cb b)] (· = [.d (.v (.bool true))]) := by
  have mt := Meet_c a b
  have ta := Text_c a
  have tb := Text_c b
  have wt := Within_c a b
  have ls := Less_cube_c a b
  have hab : a.sound = true ∧ b.sound = true ∨ (a.sound = false ∨ b.sound = false) := by cases a.sound <;> cases b.sound <;> simp
  rcases hab with ⟨ha, hb⟩ | hab
  · have mT := MeetT_c a b
    have wT := WithinT_c a b
    have cT := CubeT_c (meetT a b)
    have hmo : meetO a b = (apart a b == 0) := by unfold meetO; rw [ha, hb]; rfl
    have hwo : withinC a b = withinT a b := by unfold withinC withinT; rw [ha, hb]; rfl
    rw [ha] at ta
    rw [hb] at tb
    rw [hmo] at mt
    rw [hwo] at wt
    cases h : (apart a b == 0)
    · have hv : meetV a b = ⟨0, 0⟩ := by unfold meetV; rw [hmo, h]; rfl
      rw [h] at mt mT
      rw [hv] at mt
      generalize withinT a b = q at wt wT
      cases q
      all_goals
        refine acalls_of_awp Try.func4 rfl (by decide +kernel) (by rw [Try.ntmps4]; simp) ?_; rw [Try.ntmps4]; simp only [frOf]
        (repeat (first | refine awp_seq ?_ | refine awp_yes rfl ?_ | refine awp_no rfl ?_ | refine awp_block ?_ | (refine awp_region fun K hK => ?_) | (refine awp_draw (by kernel_rfl) (by kernel_rfl) fun K hK => ?_) | (refine awp_skip ?_; (first | show AWP _ _ _ _ _ | show loopQ _ _ _ _ _ _)) | (refine awp_exit ?_; (first | show AWP _ _ _ _ _ | show loopQ _ _ _ _ _ _)) | ((first | refine walkS_end (hK _ ?_) | refine walkD_end (hK _ _ (okTrace_spec (by kernel_rfl)) ?_)); clear hK K; (first | show AWP _ _ _ _ _ | show loopQ _ _ _ _ _ _)) | ((first | refine walkS_call3 rfl rfl rfl ?_ | refine walkD_call3 rfl rfl rfl ?_); simp (maxSteps := 2000000) (disch := omega) only [go_sem, ↓reduceIte, reduceCtorEq, Nat.reduceLT, Nat.reducePow, Nat.reduceLeDiff, Nat.reduceAdd, Nat.reduceMul, Nat.reduceSub, Nat.reduceEqDiff, Nat.reduceBEq, Int.reduceToNat, Int.reduceBEq, Int.reduceBNe, ty24, ty26, ty22, ty3, ty4, un4, ty9, ty36, hd, cb, eqty24, eqty26, hi_zero, lo_zero, eqI_self]; (first | refine ⟨_, mt, ?_⟩ | refine ⟨_, ta, ?_⟩ | refine ⟨_, tb, ?_⟩ | refine ⟨_, wt, ?_⟩ | refine ⟨_, mT, ?_⟩ | refine ⟨_, wT, ?_⟩ | refine ⟨_, awake2_c, ?_⟩)) | ((first | refine walkS_run1 [] rfl ?_ | refine walkD_run1 [] rfl ?_); simp (maxSteps := 2000000) (disch := omega) only [go_sem, ↓reduceIte, reduceCtorEq, Nat.reduceLT, Nat.reducePow, Nat.reduceLeDiff, Nat.reduceAdd, Nat.reduceMul, Nat.reduceSub, Nat.reduceEqDiff, Nat.reduceBEq, Int.reduceToNat, Int.reduceBEq, Int.reduceBNe, ty24, ty26, ty22, ty3, ty4, un4, ty9, ty36, hd, cb, eqty24, eqty26, hi_zero, lo_zero, eqI_self]; (repeat (first | refine ⟨by omega, ?_⟩ | refine ⟨True.intro, ?_⟩)))))
        refine awp_ret ⟨_, ?_, rfl⟩; rw [Try.results4]; simp (disch := omega) only [ResVars, ResVar, ptrLoc, go_sem, ↓reduceIte, reduceCtorEq, Nat.reduceLT, Nat.reducePow, Nat.reduceLeDiff, Nat.reduceAdd, Nat.reduceMul, Nat.reduceSub, Nat.reduceEqDiff, Nat.reduceBEq, Int.reduceToNat, Int.reduceBEq, Int.reduceBNe, ty24, ty26, ty22, ty3, ty4, un4, ty9, ty36, hd, cb, eqty24, eqty26, hi_zero, lo_zero, eqI_self]
    · have hv : meetV a b = ⟨a.v ||| b.v, a.c ||| b.c⟩ := by unfold meetV; rw [hmo, h]; rfl
      have hs := sound_meet (a := a) (b := b) (by rw [hmo, h])
      rw [hv] at hs
      rw [meet_text ha hb] at mT cT
      rw [andC hs] at cT
      rw [h] at mt mT
      rw [hv] at mt
      simp only [if_true] at ta tb mT
      generalize withinT a b = q at wt wT
      generalize (⟨a.v ||| b.v, a.c ||| b.c⟩ : Cube) = K at mt mT cT
      generalize txt K = sm at mT cT
      generalize txt a = sa at ta mT wT
      generalize txt b = sb at tb mT wT
      cases q
      all_goals
        refine acalls_of_awp Try.func4 rfl (by decide +kernel) (by rw [Try.ntmps4]; simp) ?_; rw [Try.ntmps4]; simp only [frOf]
        (repeat (first | refine awp_seq ?_ | refine awp_yes rfl ?_ | refine awp_no rfl ?_ | refine awp_block ?_ | (refine awp_region fun K hK => ?_) | (refine awp_draw (by kernel_rfl) (by kernel_rfl) fun K hK => ?_) | (refine awp_skip ?_; (first | show AWP _ _ _ _ _ | show loopQ _ _ _ _ _ _)) | (refine awp_exit ?_; (first | show AWP _ _ _ _ _ | show loopQ _ _ _ _ _ _)) | ((first | refine walkS_end (hK _ ?_) | refine walkD_end (hK _ _ (okTrace_spec (by kernel_rfl)) ?_)); clear hK K; (first | show AWP _ _ _ _ _ | show loopQ _ _ _ _ _ _)) | ((first | refine walkS_call3 rfl rfl rfl ?_ | refine walkD_call3 rfl rfl rfl ?_); simp (maxSteps := 2000000) (disch := omega) only [go_sem, ↓reduceIte, reduceCtorEq, Nat.reduceLT, Nat.reducePow, Nat.reduceLeDiff, Nat.reduceAdd, Nat.reduceMul, Nat.reduceSub, Nat.reduceEqDiff, Nat.reduceBEq, Int.reduceToNat, Int.reduceBEq, Int.reduceBNe, ty24, ty26, ty22, ty3, ty4, un4, ty9, ty36, hd, cb, eqty24, eqty26, hi_zero, lo_zero, eqI_self]; (first | refine ⟨_, mt, ?_⟩ | refine ⟨_, ta, ?_⟩ | refine ⟨_, tb, ?_⟩ | refine ⟨_, wt, ?_⟩ | refine ⟨_, mT, ?_⟩ | refine ⟨_, wT, ?_⟩ | refine ⟨_, cT, ?_⟩ | refine ⟨_, awake2_c, ?_⟩)) | ((first | refine walkS_run1 [] rfl ?_ | refine walkD_run1 [] rfl ?_); simp (maxSteps := 2000000) (disch := omega) only [go_sem, ↓reduceIte, reduceCtorEq, Nat.reduceLT, Nat.reducePow, Nat.reduceLeDiff, Nat.reduceAdd, Nat.reduceMul, Nat.reduceSub, Nat.reduceEqDiff, Nat.reduceBEq, Int.reduceToNat, Int.reduceBEq, Int.reduceBNe, ty24, ty26, ty22, ty3, ty4, un4, ty9, ty36, hd, cb, eqty24, eqty26, hi_zero, lo_zero, eqI_self]; (repeat (first | refine ⟨by omega, ?_⟩ | refine ⟨True.intro, ?_⟩)))))
        refine awp_ret ⟨_, ?_, rfl⟩; rw [Try.results4]; simp (disch := omega) only [ResVars, ResVar, ptrLoc, go_sem, ↓reduceIte, reduceCtorEq, Nat.reduceLT, Nat.reducePow, Nat.reduceLeDiff, Nat.reduceAdd, Nat.reduceMul, Nat.reduceSub, Nat.reduceEqDiff, Nat.reduceBEq, Int.reduceToNat, Int.reduceBEq, Int.reduceBNe, ty24, ty26, ty22, ty3, ty4, un4, ty9, ty36, hd, cb, eqty24, eqty26, hi_zero, lo_zero, eqI_self]
  · have hmo : meetO a b = false := by unfold meetO; rcases hab with h | h <;> rw [h] <;> simp
    have hwo : withinC a b = false := by unfold withinC; rcases hab with h | h <;> rw [h] <;> simp
    have hlo : lessL a b = [] := by unfold lessL; rcases hab with h | h <;> rw [h] <;> simp
    have hv : meetV a b = ⟨0, 0⟩ := by unfold meetV; rw [hmo]; rfl
    rw [hmo, hv] at mt
    rw [hwo] at wt
    rw [hlo] at ls
    cases ha : a.sound <;> cases hb : b.sound
    all_goals
      rw [ha] at ta
      rw [hb] at tb
    rotate_right
    · rw [ha, hb] at hab; simp at hab
    all_goals
      refine acalls_of_awp Try.func4 rfl (by decide +kernel) (by rw [Try.ntmps4]; simp) ?_; rw [Try.ntmps4]; simp only [frOf]
      (repeat (first | refine awp_seq ?_ | refine awp_yes rfl ?_ | refine awp_no rfl ?_ | refine awp_block ?_ | (refine awp_region fun K hK => ?_) | (refine awp_draw (by kernel_rfl) (by kernel_rfl) fun K hK => ?_) | (refine awp_skip ?_; (first | show AWP _ _ _ _ _ | show loopQ _ _ _ _ _ _)) | (refine awp_exit ?_; (first | show AWP _ _ _ _ _ | show loopQ _ _ _ _ _ _)) | ((first | refine walkS_end (hK _ ?_) | refine walkD_end (hK _ _ (okTrace_spec (by kernel_rfl)) ?_)); clear hK K; (first | show AWP _ _ _ _ _ | show loopQ _ _ _ _ _ _)) | ((first | refine walkS_call3 rfl rfl rfl ?_ | refine walkD_call3 rfl rfl rfl ?_); simp (maxSteps := 2000000) (disch := omega) only [go_sem, ↓reduceIte, reduceCtorEq, Nat.reduceLT, Nat.reducePow, Nat.reduceLeDiff, Nat.reduceAdd, Nat.reduceMul, Nat.reduceSub, Nat.reduceEqDiff, Nat.reduceBEq, Int.reduceToNat, Int.reduceBEq, Int.reduceBNe, ty24, ty26, ty22, ty3, ty4, un4, ty9, ty36, hd, cb, eqty24, eqty26, hi_zero, lo_zero, eqI_self]; (first | refine ⟨_, mt, ?_⟩ | refine ⟨_, ta, ?_⟩ | refine ⟨_, tb, ?_⟩ | refine ⟨_, wt, ?_⟩ | refine ⟨_, ls, ?_⟩ | refine ⟨_, awake2_c, ?_⟩)) | ((first | refine walkS_run1 [] rfl ?_ | refine walkD_run1 [] rfl ?_); simp (maxSteps := 2000000) (disch := omega) only [go_sem, ↓reduceIte, reduceCtorEq, Nat.reduceLT, Nat.reducePow, Nat.reduceLeDiff, Nat.reduceAdd, Nat.reduceMul, Nat.reduceSub, Nat.reduceEqDiff, Nat.reduceBEq, Int.reduceToNat, Int.reduceBEq, Int.reduceBNe, ty24, ty26, ty22, ty3, ty4, un4, ty9, ty36, hd, cb, eqty24, eqty26, hi_zero, lo_zero, eqI_self]; (repeat (first | refine ⟨by omega, ?_⟩ | refine ⟨True.intro, ?_⟩)))))
      refine awp_ret ⟨_, ?_, rfl⟩; rw [Try.results4]; simp (disch := omega) only [ResVars, ResVar, ptrLoc, go_sem, ↓reduceIte, reduceCtorEq, Nat.reduceLT, Nat.reducePow, Nat.reduceLeDiff, Nat.reduceAdd, Nat.reduceMul, Nat.reduceSub, Nat.reduceEqDiff, Nat.reduceBEq, Int.reduceToNat, Int.reduceBEq, Int.reduceBNe, ty24, ty26, ty22, ty3, ty4, un4, ty9, ty36, hd, cb, eqty24, eqty26, hi_zero, lo_zero, eqI_self]
end Go.Proofs.Ytfcfhlfehomhpaa
