/- Layer 8's laws: ConfigSound, ConfigStamps. Conditions: none, but that no row is greater than memory bears. -/
import Derived.Test.YtgfnpkpbebihgaaLaw8a
set_option linter.unusedSimpArgs false
set_option linter.unusedVariables false
namespace Go.Proofs.Ytgfnpkpbebihgaa
open Go.Proofs.Ytgfnpkpbebihgaa.AL
theorem ConfigSound_c (c : Config) (hc : c.small) : ACalls Try.prog 8 [.agg (configD c)] (· = [.d (.v (.bool true))]) := by
  have k1 := Awake8_c
  have k2 := SoundC_c c hc
  have k3 := SoundCR_c c hc
  refine acalls_of_awp Try.func8 rfl (by decide +kernel) (by rw [Try.ntmps8]; simp) ?_; rw [Try.ntmps8]; simp only [frOf]
  (repeat (first | refine awp_seq ?_ | refine awp_yes rfl ?_ | refine awp_no rfl ?_ | refine awp_block ?_ | (refine awp_region fun K hK => ?_) | (refine awp_draw (by kernel_rfl) (by kernel_rfl) fun K hK => ?_) | (refine awp_skip ?_; (first | show AWP _ _ _ _ _ | show loopQ _ _ _ _ _ _ | (simp only [blockQ_n]; first | show AWP _ _ _ _ _ | show loopQ _ _ _ _ _ _))) | (refine awp_exit ?_; (first | show AWP _ _ _ _ _ | show loopQ _ _ _ _ _ _ | (simp only [blockQ_n]; first | show AWP _ _ _ _ _ | show loopQ _ _ _ _ _ _))) | ((first | refine walkS_end (hK _ ?_) | refine walkD_end (hK _ _ (okTrace_spec (by kernel_rfl)) ?_)); clear hK K; (first | show AWP _ _ _ _ _ | show loopQ _ _ _ _ _ _ | (simp only [blockQ_n]; first | show AWP _ _ _ _ _ | show loopQ _ _ _ _ _ _))) | ((first | refine walkS_call3 rfl rfl rfl ?_ | refine walkD_call3 rfl rfl rfl ?_); simp (maxSteps := 2000000) (disch := omega) only [go_sem, ↓reduceIte, reduceCtorEq, Nat.reduceLT, Nat.reducePow, Nat.reduceLeDiff, Nat.reduceAdd, Nat.reduceMul, Nat.reduceSub, Nat.reduceEqDiff, Nat.reduceBEq, Int.reduceToNat, Int.reduceBEq, Int.reduceBNe, ty24, ty26, ty71, ty50, ty53, ty46, ty58, ty94, ty3, ty22, ty4, ty47, ty48, ty54, configD, policyD, topoD, spotD, cb, hd, eqty26, eqty24, eqA2, un4]; (first | refine ⟨_, k1, ?_⟩ | refine ⟨_, k2, ?_⟩ | refine ⟨_, k3, ?_⟩)) | ((first | refine walkS_run1 [] rfl ?_ | refine walkD_run1 [] rfl ?_); simp (maxSteps := 2000000) (disch := omega) only [go_sem, ↓reduceIte, reduceCtorEq, Nat.reduceLT, Nat.reducePow, Nat.reduceLeDiff, Nat.reduceAdd, Nat.reduceMul, Nat.reduceSub, Nat.reduceEqDiff, Nat.reduceBEq, Int.reduceToNat, Int.reduceBEq, Int.reduceBNe, ty24, ty26, ty71, ty50, ty53, ty46, ty58, ty94, ty3, ty22, ty4, ty47, ty48, ty54, configD, policyD, topoD, spotD, cb, hd, eqty26, eqty24, eqA2, un4]; (repeat (first | refine ⟨by omega, ?_⟩ | refine ⟨True.intro, ?_⟩)))))
  refine awp_ret ⟨_, ?_, rfl⟩; rw [Try.results8]; simp (disch := omega) only [ResVars, ResVar, ptrLoc, go_sem, ↓reduceIte, reduceCtorEq, Nat.reduceLT, Nat.reducePow, Nat.reduceLeDiff, Nat.reduceAdd, Nat.reduceMul, Nat.reduceSub, Nat.reduceEqDiff, Nat.reduceBEq, Int.reduceToNat, Int.reduceBEq, Int.reduceBNe, ty24, ty26, ty71, ty50, ty53, ty46, ty58, ty94, ty3, ty22, ty4, ty47, ty48, ty54, configD, policyD, topoD, spotD, cb, hd, eqty26, eqty24, eqA2, un4]
theorem edge_not {t : List (List Port)} {s : Spot} (h : (edgesT t).contains s = false) : edgeT t s < 0 := by
  unfold edgeT
  split
  · decide
  · rename_i h1
    split
    · decide
    · rename_i h2
      split
      · rename_i h3
        exfalso
        have hm : s ∈ edgesT t := edgesTo_mem.2 ⟨s.sw.toNat, s.po.toNat, by omega, by omega, h3, by
          obtain ⟨a, b⟩ := s
          simp only [] at h1 h2 ⊢
          rw [Int.toNat_of_nonneg (by omega), Int.toNat_of_nonneg (by omega)]⟩
        rw [Bool.eq_false_iff] at h
        exact h (by simpa using hm)
      · decide
theorem sound_of {c : Config} (h : soundC c = 0) : soundT c.tp = 0 := by
  refine Classical.byContradiction fun h1 => ?_
  unfold soundC at h
  rw [if_pos h1] at h
  exact h1 h
theorem stampV_care (tn v : Int) : (stampV tn v).c = ones 40 <<< 88 := rfl
theorem stampV_sound (tn v : Int) : (stampV tn v).sound = true := by
  rw [sound_iff]
  intro i hi h
  unfold stampV mkC at h
  simp only [] at h
  rw [BitVec.getLsbD_and, Bool.and_eq_true] at h
  exact h.2
theorem care_hi : hi (ones 40 <<< 88) = 18446744073692774400 := by decide +kernel
theorem care_lo : lo (ones 40 <<< 88) = 0 := by decide +kernel
set_option maxRecDepth 100000 in
set_option maxHeartbeats 4000000 in
theorem ConfigStamps_c (c : Config) (s : Spot) (v : Int) (h : BitVec 128) (hc : c.small) (hv : -9223372036854775808 ≤ v ∧ v < 9223372036854775808) :
    ACalls Try.prog 9 [.agg (configD c), .agg (spotD s), .d (.v (.int .i64 v)), .agg (hd h)] (· = [.d (.v (.bool true))]) := by
  have k1 := Awake8_c
  have k2 := SoundCR_c c hc
  have k3 := StampC_c c s v hc hv
  have k4 := EdgeR_c c.tp s hc.tp
  have fail : stampE c s v ≠ 0 → stampC c s v = ⟨0, 0⟩ := fun h => if_neg h
  have hst : stampE c s v = if soundC c ≠ 0 then soundC c else if v < 0 ∨ 255 < v then 4 else if (edgesT c.tp).contains s = false then 7 else 0 := rfl
  have z : eqI [0, 0, 0, 0] [0, 0, 0, 0] = true := rfl
  by_cases h1 : soundC c = 0
  · rw [if_neg (by omega)] at hst
    rw [h1] at k2
    by_cases h2 : v < 0 ∨ 255 < v
    · rw [if_pos h2] at hst
      rw [fail (by rw [hst]; decide), hst, cb_none] at k3
      by_cases h3 : v < 0
      all_goals
        refine acalls_of_awp Try.func9 rfl (by decide +kernel) (by rw [Try.ntmps9]; simp) ?_; rw [Try.ntmps9]; simp only [frOf]
        (repeat (first | refine awp_seq ?_ | refine awp_yes rfl ?_ | refine awp_no rfl ?_ | refine awp_block ?_ | (refine awp_region fun K hK => ?_) | (refine awp_draw (by kernel_rfl) (by kernel_rfl) fun K hK => ?_) | (refine awp_skip ?_; (first | show AWP _ _ _ _ _ | show loopQ _ _ _ _ _ _ | (simp only [blockQ_n]; first | show AWP _ _ _ _ _ | show loopQ _ _ _ _ _ _))) | (refine awp_exit ?_; (first | show AWP _ _ _ _ _ | show loopQ _ _ _ _ _ _ | (simp only [blockQ_n]; first | show AWP _ _ _ _ _ | show loopQ _ _ _ _ _ _))) | ((first | refine walkS_end (hK _ ?_) | refine walkD_end (hK _ _ (okTrace_spec (by kernel_rfl)) ?_)); clear hK K; (first | show AWP _ _ _ _ _ | show loopQ _ _ _ _ _ _ | (simp only [blockQ_n]; first | show AWP _ _ _ _ _ | show loopQ _ _ _ _ _ _))) | ((first | refine walkS_call3 rfl rfl rfl ?_ | refine walkD_call3 rfl rfl rfl ?_); simp (maxSteps := 2000000) (disch := omega) only [go_sem, ↓reduceIte, reduceCtorEq, Nat.reduceLT, Nat.reducePow, Nat.reduceLeDiff, Nat.reduceAdd, Nat.reduceMul, Nat.reduceSub, Nat.reduceEqDiff, Nat.reduceBEq, Int.reduceToNat, Int.reduceBEq, Int.reduceBNe, ty24, ty26, ty71, ty50, ty53, ty46, ty58, ty94, ty3, ty22, ty4, ty47, ty48, ty54, configD, policyD, topoD, spotD, cb, hd, eqty26, eqty24, eqA2, un4, z]; (first | refine ⟨_, k1, ?_⟩ | refine ⟨_, k2, ?_⟩ | refine ⟨_, k3, ?_⟩ | refine ⟨_, k4, ?_⟩)) | ((first | refine walkS_run1 [] rfl ?_ | refine walkD_run1 [] rfl ?_); simp (maxSteps := 2000000) (disch := omega) only [go_sem, ↓reduceIte, reduceCtorEq, Nat.reduceLT, Nat.reducePow, Nat.reduceLeDiff, Nat.reduceAdd, Nat.reduceMul, Nat.reduceSub, Nat.reduceEqDiff, Nat.reduceBEq, Int.reduceToNat, Int.reduceBEq, Int.reduceBNe, ty24, ty26, ty71, ty50, ty53, ty46, ty58, ty94, ty3, ty22, ty4, ty47, ty48, ty54, configD, policyD, topoD, spotD, cb, hd, eqty26, eqty24, eqA2, un4, z]; (repeat (first | refine ⟨by omega, ?_⟩ | refine ⟨True.intro, ?_⟩)))))
        refine awp_ret ⟨_, ?_, rfl⟩; rw [Try.results9]; simp (disch := omega) only [ResVars, ResVar, ptrLoc, go_sem, ↓reduceIte, reduceCtorEq, Nat.reduceLT, Nat.reducePow, Nat.reduceLeDiff, Nat.reduceAdd, Nat.reduceMul, Nat.reduceSub, Nat.reduceEqDiff, Nat.reduceBEq, Int.reduceToNat, Int.reduceBEq, Int.reduceBNe, ty24, ty26, ty71, ty50, ty53, ty46, ty58, ty94, ty3, ty22, ty4, ty47, ty48, ty54, configD, policyD, topoD, spotD, cb, hd, eqty26, eqty24, eqA2, un4, z]
    · rw [if_neg h2] at hst
      cases hq : (edgesT c.tp).contains s
      · rw [if_pos hq] at hst
        rw [fail (by rw [hst]; decide), hst, cb_none] at k3
        have hn := edge_not hq
        generalize edgeT c.tp s = e at k4 hn
        refine acalls_of_awp Try.func9 rfl (by decide +kernel) (by rw [Try.ntmps9]; simp) ?_; rw [Try.ntmps9]; simp only [frOf]
        (repeat (first | refine awp_seq ?_ | refine awp_yes rfl ?_ | refine awp_no rfl ?_ | refine awp_block ?_ | (refine awp_region fun K hK => ?_) | (refine awp_draw (by kernel_rfl) (by kernel_rfl) fun K hK => ?_) | (refine awp_skip ?_; (first | show AWP _ _ _ _ _ | show loopQ _ _ _ _ _ _ | (simp only [blockQ_n]; first | show AWP _ _ _ _ _ | show loopQ _ _ _ _ _ _))) | (refine awp_exit ?_; (first | show AWP _ _ _ _ _ | show loopQ _ _ _ _ _ _ | (simp only [blockQ_n]; first | show AWP _ _ _ _ _ | show loopQ _ _ _ _ _ _))) | ((first | refine walkS_end (hK _ ?_) | refine walkD_end (hK _ _ (okTrace_spec (by kernel_rfl)) ?_)); clear hK K; (first | show AWP _ _ _ _ _ | show loopQ _ _ _ _ _ _ | (simp only [blockQ_n]; first | show AWP _ _ _ _ _ | show loopQ _ _ _ _ _ _))) | ((first | refine walkS_call3 rfl rfl rfl ?_ | refine walkD_call3 rfl rfl rfl ?_); simp (maxSteps := 2000000) (disch := omega) only [go_sem, ↓reduceIte, reduceCtorEq, Nat.reduceLT, Nat.reducePow, Nat.reduceLeDiff, Nat.reduceAdd, Nat.reduceMul, Nat.reduceSub, Nat.reduceEqDiff, Nat.reduceBEq, Int.reduceToNat, Int.reduceBEq, Int.reduceBNe, ty24, ty26, ty71, ty50, ty53, ty46, ty58, ty94, ty3, ty22, ty4, ty47, ty48, ty54, configD, policyD, topoD, spotD, cb, hd, eqty26, eqty24, eqA2, un4, z]; (first | refine ⟨_, k1, ?_⟩ | refine ⟨_, k2, ?_⟩ | refine ⟨_, k3, ?_⟩ | refine ⟨_, k4, ?_⟩)) | ((first | refine walkS_run1 [] rfl ?_ | refine walkD_run1 [] rfl ?_); simp (maxSteps := 2000000) (disch := omega) only [go_sem, ↓reduceIte, reduceCtorEq, Nat.reduceLT, Nat.reducePow, Nat.reduceLeDiff, Nat.reduceAdd, Nat.reduceMul, Nat.reduceSub, Nat.reduceEqDiff, Nat.reduceBEq, Int.reduceToNat, Int.reduceBEq, Int.reduceBNe, ty24, ty26, ty71, ty50, ty53, ty46, ty58, ty94, ty3, ty22, ty4, ty47, ty48, ty54, configD, policyD, topoD, spotD, cb, hd, eqty26, eqty24, eqA2, un4, z]; (repeat (first | refine ⟨by omega, ?_⟩ | refine ⟨True.intro, ?_⟩)))))
        refine awp_ret ⟨_, ?_, rfl⟩; rw [Try.results9]; simp (disch := omega) only [ResVars, ResVar, ptrLoc, go_sem, ↓reduceIte, reduceCtorEq, Nat.reduceLT, Nat.reducePow, Nat.reduceLeDiff, Nat.reduceAdd, Nat.reduceMul, Nat.reduceSub, Nat.reduceEqDiff, Nat.reduceBEq, Int.reduceToNat, Int.reduceBEq, Int.reduceBNe, ty24, ty26, ty71, ty50, ty53, ty46, ty58, ty94, ty3, ty22, ty4, ty47, ty48, ty54, configD, policyD, topoD, spotD, cb, hd, eqty26, eqty24, eqA2, un4, z]
      · rw [if_neg (by rw [hq]; decide)] at hst
        have hs0 := sound_of h1
        have hmem : s ∈ edgesT c.tp := by simpa using hq
        obtain ⟨tn1, tn2⟩ := sound_tenant hs0 hmem
        have hsc : stampC c s v = stampV (edgeT c.tp s) v := if_pos hst
        rw [hsc, hst] at k3
        generalize edgeT c.tp s = tn at tn1 tn2 k3 k4
        obtain ⟨t, rfl⟩ : ∃ t : Nat, tn = (t : Int) := ⟨tn.toNat, by omega⟩
        obtain ⟨w, rfl⟩ : ∃ w : Nat, v = (w : Int) := ⟨v.toNat, by omega⟩
        have k5 := Text_c (stampV (t : Int) (w : Int))
        have k6 := SetT_c h (stampV (t : Int) (w : Int))
        have k7 := StampR_c h t w (by omega) (by omega)
        have se := stamp_eq h t w (by omega) (by omega)
        have e1 := care_hi
        have e2 := care_lo
        rw [← stampV_care (t : Int) (w : Int)] at e1 e2
        rw [stampV_sound] at k5
        simp only [if_true] at k5
        rw [se] at k6
        have zz : eqI [18446744073692774400, 0] [18446744073692774400, 0] = true := rfl
        generalize stampR h (t + 1) w = g at k6 k7
        generalize stampV (t : Int) (w : Int) = K at k3 k5 k6 e1 e2
        generalize txt K = tK at k5
        simp only [cb, e1, e2] at k3 k5 k6
        refine acalls_of_awp Try.func9 rfl (by decide +kernel) (by rw [Try.ntmps9]; simp) ?_; rw [Try.ntmps9]; simp only [frOf]
        (repeat (first | refine awp_seq ?_ | refine awp_yes rfl ?_ | refine awp_no rfl ?_ | refine awp_block ?_ | (refine awp_region fun K hK => ?_) | (refine awp_draw (by kernel_rfl) (by kernel_rfl) fun K hK => ?_) | (refine awp_skip ?_; (first | show AWP _ _ _ _ _ | show loopQ _ _ _ _ _ _ | (simp only [blockQ_n]; first | show AWP _ _ _ _ _ | show loopQ _ _ _ _ _ _))) | (refine awp_exit ?_; (first | show AWP _ _ _ _ _ | show loopQ _ _ _ _ _ _ | (simp only [blockQ_n]; first | show AWP _ _ _ _ _ | show loopQ _ _ _ _ _ _))) | ((first | refine walkS_end (hK _ ?_) | refine walkD_end (hK _ _ (okTrace_spec (by kernel_rfl)) ?_)); clear hK K; (first | show AWP _ _ _ _ _ | show loopQ _ _ _ _ _ _ | (simp only [blockQ_n]; first | show AWP _ _ _ _ _ | show loopQ _ _ _ _ _ _))) | ((first | refine walkS_call3 rfl rfl rfl ?_ | refine walkD_call3 rfl rfl rfl ?_); simp (maxSteps := 2000000) (disch := omega) only [go_sem, ↓reduceIte, reduceCtorEq, Nat.reduceLT, Nat.reducePow, Nat.reduceLeDiff, Nat.reduceAdd, Nat.reduceMul, Nat.reduceSub, Nat.reduceEqDiff, Nat.reduceBEq, Int.reduceToNat, Int.reduceBEq, Int.reduceBNe, ty24, ty26, ty71, ty50, ty53, ty46, ty58, ty94, ty3, ty22, ty4, ty47, ty48, ty54, configD, policyD, topoD, spotD, cb, hd, eqty26, eqty24, eqA2, un4, zz, e1, e2]; (first | refine ⟨_, k1, ?_⟩ | refine ⟨_, k2, ?_⟩ | refine ⟨_, k3, ?_⟩ | refine ⟨_, k4, ?_⟩ | refine ⟨_, k5, ?_⟩ | refine ⟨_, k6, ?_⟩ | refine ⟨_, k7, ?_⟩)) | ((first | refine walkS_run1 [] rfl ?_ | refine walkD_run1 [] rfl ?_); simp (maxSteps := 2000000) (disch := omega) only [go_sem, ↓reduceIte, reduceCtorEq, Nat.reduceLT, Nat.reducePow, Nat.reduceLeDiff, Nat.reduceAdd, Nat.reduceMul, Nat.reduceSub, Nat.reduceEqDiff, Nat.reduceBEq, Int.reduceToNat, Int.reduceBEq, Int.reduceBNe, ty24, ty26, ty71, ty50, ty53, ty46, ty58, ty94, ty3, ty22, ty4, ty47, ty48, ty54, configD, policyD, topoD, spotD, cb, hd, eqty26, eqty24, eqA2, un4, zz, e1, e2]; (repeat (first | refine ⟨by omega, ?_⟩ | refine ⟨True.intro, ?_⟩)))))
        refine awp_ret ⟨_, ?_, rfl⟩; rw [Try.results9]; simp (disch := omega) only [ResVars, ResVar, ptrLoc, go_sem, ↓reduceIte, reduceCtorEq, Nat.reduceLT, Nat.reducePow, Nat.reduceLeDiff, Nat.reduceAdd, Nat.reduceMul, Nat.reduceSub, Nat.reduceEqDiff, Nat.reduceBEq, Int.reduceToNat, Int.reduceBEq, Int.reduceBNe, ty24, ty26, ty71, ty50, ty53, ty46, ty58, ty94, ty3, ty22, ty4, ty47, ty48, ty54, configD, policyD, topoD, spotD, cb, hd, eqty26, eqty24, eqA2, un4, zz, e1, e2]
        rw [eqI_hd, BEq.rfl]
  · rw [if_pos h1] at hst
    rw [fail (by rw [hst]; exact h1), hst, cb_none] at k3
    have q : (soundC c != 0) = true := ine_tt h1
    generalize soundC c = e at k2 k3 q
    refine acalls_of_awp Try.func9 rfl (by decide +kernel) (by rw [Try.ntmps9]; simp) ?_; rw [Try.ntmps9]; simp only [frOf]
    (repeat (first | refine awp_seq ?_ | refine awp_yes rfl ?_ | refine awp_no rfl ?_ | refine awp_block ?_ | (refine awp_region fun K hK => ?_) | (refine awp_draw (by kernel_rfl) (by kernel_rfl) fun K hK => ?_) | (refine awp_skip ?_; (first | show AWP _ _ _ _ _ | show loopQ _ _ _ _ _ _ | (simp only [blockQ_n]; first | show AWP _ _ _ _ _ | show loopQ _ _ _ _ _ _))) | (refine awp_exit ?_; (first | show AWP _ _ _ _ _ | show loopQ _ _ _ _ _ _ | (simp only [blockQ_n]; first | show AWP _ _ _ _ _ | show loopQ _ _ _ _ _ _))) | ((first | refine walkS_end (hK _ ?_) | refine walkD_end (hK _ _ (okTrace_spec (by kernel_rfl)) ?_)); clear hK K; (first | show AWP _ _ _ _ _ | show loopQ _ _ _ _ _ _ | (simp only [blockQ_n]; first | show AWP _ _ _ _ _ | show loopQ _ _ _ _ _ _))) | ((first | refine walkS_call3 rfl rfl rfl ?_ | refine walkD_call3 rfl rfl rfl ?_); simp (maxSteps := 2000000) (disch := omega) only [go_sem, ↓reduceIte, reduceCtorEq, Nat.reduceLT, Nat.reducePow, Nat.reduceLeDiff, Nat.reduceAdd, Nat.reduceMul, Nat.reduceSub, Nat.reduceEqDiff, Nat.reduceBEq, Int.reduceToNat, Int.reduceBEq, Int.reduceBNe, ty24, ty26, ty71, ty50, ty53, ty46, ty58, ty94, ty3, ty22, ty4, ty47, ty48, ty54, configD, policyD, topoD, spotD, cb, hd, eqty26, eqty24, eqA2, un4, q, z]; (first | refine ⟨_, k1, ?_⟩ | refine ⟨_, k2, ?_⟩ | refine ⟨_, k3, ?_⟩ | refine ⟨_, k4, ?_⟩)) | ((first | refine walkS_run1 [] rfl ?_ | refine walkD_run1 [] rfl ?_); simp (maxSteps := 2000000) (disch := omega) only [go_sem, ↓reduceIte, reduceCtorEq, Nat.reduceLT, Nat.reducePow, Nat.reduceLeDiff, Nat.reduceAdd, Nat.reduceMul, Nat.reduceSub, Nat.reduceEqDiff, Nat.reduceBEq, Int.reduceToNat, Int.reduceBEq, Int.reduceBNe, ty24, ty26, ty71, ty50, ty53, ty46, ty58, ty94, ty3, ty22, ty4, ty47, ty48, ty54, configD, policyD, topoD, spotD, cb, hd, eqty26, eqty24, eqA2, un4, q, z]; (repeat (first | refine ⟨by omega, ?_⟩ | refine ⟨True.intro, ?_⟩)))))
    refine awp_ret ⟨_, ?_, rfl⟩; rw [Try.results9]; simp (disch := omega) only [ResVars, ResVar, ptrLoc, go_sem, ↓reduceIte, reduceCtorEq, Nat.reduceLT, Nat.reducePow, Nat.reduceLeDiff, Nat.reduceAdd, Nat.reduceMul, Nat.reduceSub, Nat.reduceEqDiff, Nat.reduceBEq, Int.reduceToNat, Int.reduceBEq, Int.reduceBNe, ty24, ty26, ty71, ty50, ty53, ty46, ty58, ty94, ty3, ty22, ty4, ty47, ty48, ty54, configD, policyD, topoD, spotD, cb, hd, eqty26, eqty24, eqA2, un4, q, z]
theorem allowedP_comm (p : Policy) (a b : Int) : allowedP p b a = allowedP p a b := by
  unfold allowedP
  rw [Bool.and_comm (tenantP p b)]
  congr 2
  · rw [Bool.eq_iff_iff, beq_iff_eq, beq_iff_eq]; exact eq_comm
  · congr 1
    funext x
    unfold pairIs
    rw [Bool.or_comm]
theorem allowedP_more (p : Policy) (a b : Int) (x : Int × Int) : allowedP ⟨p.tn, p.peers ++ [x], p.ways⟩ a b = (allowedP p a b || (tenantP p a && tenantP p b && pairIs a b x)) := by
  unfold allowedP
  simp only [List.any_append, List.any_cons, List.any_nil, Bool.or_false]
  show (tenantP p a && tenantP p b && _) = _
  cases tenantP p a <;> cases tenantP p b <;> simp [Bool.or_assoc]
theorem rowA_more (l : List (Int × Int)) (x : Int × Int) (i : Nat) (hi : i < l.length + 1) : catF l.length (rowA l) (fun i => [pairD x].getD i []) i = rowA (l ++ [x]) i :=
  rowO_put pairD (0, 0) l x _ rfl i hi
set_option maxRecDepth 100000 in
set_option maxHeartbeats 4000000 in
theorem ConfigPeers_c (p : Policy) (a b : Int) (x : Int × Int) (hp : p.small) : ACalls Try.prog 11 [.agg (policyD p), .d (.v (.int .i64 a)), .d (.v (.int .i64 b)), .agg (pairD x)] (· = [.d (.v (.bool true))]) := by
  have k1 := Awake8_c
  have k2 := Allowed_c p a b hp
  have k3 := Allowed_c p b a hp
  rw [allowedP_comm] at k3
  have hp1 := hp.1
  by_cases hb : 200 < p.peers.length
  · simp only [pairD]
    refine acalls_of_awp Try.func11 rfl (by decide +kernel) (by rw [Try.ntmps11]; simp) ?_; rw [Try.ntmps11]; simp only [frOf]
    (repeat (first | refine awp_seq ?_ | refine awp_yes rfl ?_ | refine awp_no rfl ?_ | refine awp_block ?_ | (refine awp_region fun K hK => ?_) | (refine awp_draw (by kernel_rfl) (by kernel_rfl) fun K hK => ?_) | (refine awp_skip ?_; (first | show AWP _ _ _ _ _ | show loopQ _ _ _ _ _ _ | (simp only [blockQ_n]; first | show AWP _ _ _ _ _ | show loopQ _ _ _ _ _ _))) | (refine awp_exit ?_; (first | show AWP _ _ _ _ _ | show loopQ _ _ _ _ _ _ | (simp only [blockQ_n]; first | show AWP _ _ _ _ _ | show loopQ _ _ _ _ _ _))) | ((first | refine walkS_end (hK _ ?_) | refine walkD_end (hK _ _ (okTrace_spec (by kernel_rfl)) ?_)); clear hK K; (first | show AWP _ _ _ _ _ | show loopQ _ _ _ _ _ _ | (simp only [blockQ_n]; first | show AWP _ _ _ _ _ | show loopQ _ _ _ _ _ _))) | ((first | refine walkS_call3 rfl rfl rfl ?_ | refine walkD_call3 rfl rfl rfl ?_); simp (maxSteps := 2000000) (disch := omega) only [go_sem, ↓reduceIte, reduceCtorEq, Nat.reduceLT, Nat.reducePow, Nat.reduceLeDiff, Nat.reduceAdd, Nat.reduceMul, Nat.reduceSub, Nat.reduceEqDiff, Nat.reduceBEq, Int.reduceToNat, Int.reduceBEq, Int.reduceBNe, ty24, ty26, ty71, ty50, ty53, ty46, ty58, ty94, ty3, ty22, ty4, ty47, ty48, ty54, configD, policyD, topoD, spotD, cb, hd, eqty26, eqty24, eqA2, un4]; (first | refine ⟨_, k1, ?_⟩)) | ((first | refine walkS_run1 [18, 9] rfl ?_ | refine walkD_run1 [18, 9] rfl ?_); simp (maxSteps := 2000000) (disch := omega) only [go_sem, ↓reduceIte, reduceCtorEq, Nat.reduceLT, Nat.reducePow, Nat.reduceLeDiff, Nat.reduceAdd, Nat.reduceMul, Nat.reduceSub, Nat.reduceEqDiff, Nat.reduceBEq, Int.reduceToNat, Int.reduceBEq, Int.reduceBNe, ty24, ty26, ty71, ty50, ty53, ty46, ty58, ty94, ty3, ty22, ty4, ty47, ty48, ty54, configD, policyD, topoD, spotD, cb, hd, eqty26, eqty24, eqA2, un4]; (repeat (first | refine ⟨by omega, ?_⟩ | refine ⟨True.intro, ?_⟩)))))
    refine awp_ret ⟨_, ?_, rfl⟩; rw [Try.results11]; simp (disch := omega) only [ResVars, ResVar, ptrLoc, go_sem, ↓reduceIte, reduceCtorEq, Nat.reduceLT, Nat.reducePow, Nat.reduceLeDiff, Nat.reduceAdd, Nat.reduceMul, Nat.reduceSub, Nat.reduceEqDiff, Nat.reduceBEq, Int.reduceToNat, Int.reduceBEq, Int.reduceBNe, ty24, ty26, ty71, ty50, ty53, ty46, ty58, ty94, ty3, ty22, ty4, ty47, ty48, ty54, configD, policyD, topoD, spotD, cb, hd, eqty26, eqty24, eqA2, un4]
  have hq : Policy.small ⟨p.tn, p.peers ++ [x], p.ways⟩ := ⟨by simp; omega, hp.2⟩
  have k4 := Allowed_c ⟨p.tn, p.peers ++ [x], p.ways⟩ a b hq
  rw [allowedP_more] at k4
  generalize hA : allowedP p a b = A at k2 k3 k4
  have hB : (tenantP p a && tenantP p b && pairIs a b x) = true → pairIs a b x = true := fun h => (Bool.and_eq_true_iff.1 h).2
  generalize (tenantP p a && tenantP p b && pairIs a b x) = B at k4 hB
  obtain ⟨x1, x2⟩ := x
  have e1 : eqI [x1, x2] [a, b] = (x1 == a && x2 == b) := by simp [eqI]
  have e2 : eqI [x1, x2] [b, a] = (x1 == b && x2 == a) := by simp [eqI]
  have hB : B = true → ((x1 == a && x2 == b) || (x1 == b && x2 == a)) = true := hB
  generalize (x1 == a && x2 == b) = q1 at e1 hB
  generalize (x1 == b && x2 == a) = q2 at e2 hB
  have k4 : ACalls Try.prog 33 [.agg [.v (.int .i64 p.tn), .sl 2 (p.peers.length + 1) (catF p.peers.length (catF 0 (fun x => []) (rowA p.peers)) fun i => [[Dat.v (.int .i64 x1), Dat.v (.int .i64 x2)]].getD i []), .sl 3 p.ways.length (rowW p.ways)], .d (.v (.int .i64 a)), .d (.v (.int .i64 b))] (· = [.d (.v (.bool (A || B)))]) := by
    refine acalls_le (.cons (ple_agg (.cons (dle_refl _) (.cons (dle_sl (by simp) fun i hi => .of_eq ?_) (.cons (dle_refl _) .nil)))) (.cons (ple_refl _) (.cons (ple_refl _) .nil))) k4
    rw [← rowA_more p.peers (x1, x2) i hi]
    unfold catF
    simp only [Nat.not_lt_zero, if_false, Nat.sub_zero]
    rfl
  simp only [pairD]
  simp only [policyD] at k2 k3
  cases A
  · simp only [Bool.false_or] at k4
    cases B
    · refine acalls_of_awp Try.func11 rfl (by decide +kernel) (by rw [Try.ntmps11]; simp) ?_; rw [Try.ntmps11]; simp only [frOf]
      (repeat (first | refine awp_seq ?_ | refine awp_yes rfl ?_ | refine awp_no rfl ?_ | refine awp_block ?_ | (refine awp_region fun K hK => ?_) | (refine awp_draw (by kernel_rfl) (by kernel_rfl) fun K hK => ?_) | (refine awp_skip ?_; (first | show AWP _ _ _ _ _ | show loopQ _ _ _ _ _ _ | (simp only [blockQ_n]; first | show AWP _ _ _ _ _ | show loopQ _ _ _ _ _ _))) | (refine awp_exit ?_; (first | show AWP _ _ _ _ _ | show loopQ _ _ _ _ _ _ | (simp only [blockQ_n]; first | show AWP _ _ _ _ _ | show loopQ _ _ _ _ _ _))) | ((first | refine walkS_end (hK _ ?_) | refine walkD_end (hK _ _ (okTrace_spec (by kernel_rfl)) ?_)); clear hK K; (first | show AWP _ _ _ _ _ | show loopQ _ _ _ _ _ _ | (simp only [blockQ_n]; first | show AWP _ _ _ _ _ | show loopQ _ _ _ _ _ _))) | ((first | refine walkS_call3 rfl rfl rfl ?_ | refine walkD_call3 rfl rfl rfl ?_); simp (maxSteps := 2000000) (disch := omega) only [go_sem, ↓reduceIte, reduceCtorEq, Nat.reduceLT, Nat.reducePow, Nat.reduceLeDiff, Nat.reduceAdd, Nat.reduceMul, Nat.reduceSub, Nat.reduceEqDiff, Nat.reduceBEq, Int.reduceToNat, Int.reduceBEq, Int.reduceBNe, ty24, ty26, ty71, ty50, ty53, ty46, ty58, ty94, ty3, ty22, ty4, ty47, ty48, ty54, configD, policyD, topoD, spotD, cb, hd, eqty26, eqty24, eqA2, un4, e1, e2]; (first | refine ⟨_, k1, ?_⟩ | refine ⟨_, k2, ?_⟩ | refine ⟨_, k3, ?_⟩ | refine ⟨_, k4, ?_⟩)) | ((first | refine walkS_run1 [18, 9] rfl ?_ | refine walkD_run1 [18, 9] rfl ?_); simp (maxSteps := 2000000) (disch := omega) only [go_sem, ↓reduceIte, reduceCtorEq, Nat.reduceLT, Nat.reducePow, Nat.reduceLeDiff, Nat.reduceAdd, Nat.reduceMul, Nat.reduceSub, Nat.reduceEqDiff, Nat.reduceBEq, Int.reduceToNat, Int.reduceBEq, Int.reduceBNe, ty24, ty26, ty71, ty50, ty53, ty46, ty58, ty94, ty3, ty22, ty4, ty47, ty48, ty54, configD, policyD, topoD, spotD, cb, hd, eqty26, eqty24, eqA2, un4, e1, e2]; (repeat (first | refine ⟨by omega, ?_⟩ | refine ⟨True.intro, ?_⟩)))))
      refine awp_ret ⟨_, ?_, rfl⟩; rw [Try.results11]; simp (disch := omega) only [ResVars, ResVar, ptrLoc, go_sem, ↓reduceIte, reduceCtorEq, Nat.reduceLT, Nat.reducePow, Nat.reduceLeDiff, Nat.reduceAdd, Nat.reduceMul, Nat.reduceSub, Nat.reduceEqDiff, Nat.reduceBEq, Int.reduceToNat, Int.reduceBEq, Int.reduceBNe, ty24, ty26, ty71, ty50, ty53, ty46, ty58, ty94, ty3, ty22, ty4, ty47, ty48, ty54, configD, policyD, topoD, spotD, cb, hd, eqty26, eqty24, eqA2, un4, e1, e2]
    · cases q1
      · cases q2
        · exact absurd (hB rfl) (by decide)
        · refine acalls_of_awp Try.func11 rfl (by decide +kernel) (by rw [Try.ntmps11]; simp) ?_; rw [Try.ntmps11]; simp only [frOf]
          (repeat (first | refine awp_seq ?_ | refine awp_yes rfl ?_ | refine awp_no rfl ?_ | refine awp_block ?_ | (refine awp_region fun K hK => ?_) | (refine awp_draw (by kernel_rfl) (by kernel_rfl) fun K hK => ?_) | (refine awp_skip ?_; (first | show AWP _ _ _ _ _ | show loopQ _ _ _ _ _ _ | (simp only [blockQ_n]; first | show AWP _ _ _ _ _ | show loopQ _ _ _ _ _ _))) | (refine awp_exit ?_; (first | show AWP _ _ _ _ _ | show loopQ _ _ _ _ _ _ | (simp only [blockQ_n]; first | show AWP _ _ _ _ _ | show loopQ _ _ _ _ _ _))) | ((first | refine walkS_end (hK _ ?_) | refine walkD_end (hK _ _ (okTrace_spec (by kernel_rfl)) ?_)); clear hK K; (first | show AWP _ _ _ _ _ | show loopQ _ _ _ _ _ _ | (simp only [blockQ_n]; first | show AWP _ _ _ _ _ | show loopQ _ _ _ _ _ _))) | ((first | refine walkS_call3 rfl rfl rfl ?_ | refine walkD_call3 rfl rfl rfl ?_); simp (maxSteps := 2000000) (disch := omega) only [go_sem, ↓reduceIte, reduceCtorEq, Nat.reduceLT, Nat.reducePow, Nat.reduceLeDiff, Nat.reduceAdd, Nat.reduceMul, Nat.reduceSub, Nat.reduceEqDiff, Nat.reduceBEq, Int.reduceToNat, Int.reduceBEq, Int.reduceBNe, ty24, ty26, ty71, ty50, ty53, ty46, ty58, ty94, ty3, ty22, ty4, ty47, ty48, ty54, configD, policyD, topoD, spotD, cb, hd, eqty26, eqty24, eqA2, un4, e1, e2]; (first | refine ⟨_, k1, ?_⟩ | refine ⟨_, k2, ?_⟩ | refine ⟨_, k3, ?_⟩ | refine ⟨_, k4, ?_⟩)) | ((first | refine walkS_run1 [18, 9] rfl ?_ | refine walkD_run1 [18, 9] rfl ?_); simp (maxSteps := 2000000) (disch := omega) only [go_sem, ↓reduceIte, reduceCtorEq, Nat.reduceLT, Nat.reducePow, Nat.reduceLeDiff, Nat.reduceAdd, Nat.reduceMul, Nat.reduceSub, Nat.reduceEqDiff, Nat.reduceBEq, Int.reduceToNat, Int.reduceBEq, Int.reduceBNe, ty24, ty26, ty71, ty50, ty53, ty46, ty58, ty94, ty3, ty22, ty4, ty47, ty48, ty54, configD, policyD, topoD, spotD, cb, hd, eqty26, eqty24, eqA2, un4, e1, e2]; (repeat (first | refine ⟨by omega, ?_⟩ | refine ⟨True.intro, ?_⟩)))))
          refine awp_ret ⟨_, ?_, rfl⟩; rw [Try.results11]; simp (disch := omega) only [ResVars, ResVar, ptrLoc, go_sem, ↓reduceIte, reduceCtorEq, Nat.reduceLT, Nat.reducePow, Nat.reduceLeDiff, Nat.reduceAdd, Nat.reduceMul, Nat.reduceSub, Nat.reduceEqDiff, Nat.reduceBEq, Int.reduceToNat, Int.reduceBEq, Int.reduceBNe, ty24, ty26, ty71, ty50, ty53, ty46, ty58, ty94, ty3, ty22, ty4, ty47, ty48, ty54, configD, policyD, topoD, spotD, cb, hd, eqty26, eqty24, eqA2, un4, e1, e2]
      · refine acalls_of_awp Try.func11 rfl (by decide +kernel) (by rw [Try.ntmps11]; simp) ?_; rw [Try.ntmps11]; simp only [frOf]
        (repeat (first | refine awp_seq ?_ | refine awp_yes rfl ?_ | refine awp_no rfl ?_ | refine awp_block ?_ | (refine awp_region fun K hK => ?_) | (refine awp_draw (by kernel_rfl) (by kernel_rfl) fun K hK => ?_) | (refine awp_skip ?_; (first | show AWP _ _ _ _ _ | show loopQ _ _ _ _ _ _ | (simp only [blockQ_n]; first | show AWP _ _ _ _ _ | show loopQ _ _ _ _ _ _))) | (refine awp_exit ?_; (first | show AWP _ _ _ _ _ | show loopQ _ _ _ _ _ _ | (simp only [blockQ_n]; first | show AWP _ _ _ _ _ | show loopQ _ _ _ _ _ _))) | ((first | refine walkS_end (hK _ ?_) | refine walkD_end (hK _ _ (okTrace_spec (by kernel_rfl)) ?_)); clear hK K; (first | show AWP _ _ _ _ _ | show loopQ _ _ _ _ _ _ | (simp only [blockQ_n]; first | show AWP _ _ _ _ _ | show loopQ _ _ _ _ _ _))) | ((first | refine walkS_call3 rfl rfl rfl ?_ | refine walkD_call3 rfl rfl rfl ?_); simp (maxSteps := 2000000) (disch := omega) only [go_sem, ↓reduceIte, reduceCtorEq, Nat.reduceLT, Nat.reducePow, Nat.reduceLeDiff, Nat.reduceAdd, Nat.reduceMul, Nat.reduceSub, Nat.reduceEqDiff, Nat.reduceBEq, Int.reduceToNat, Int.reduceBEq, Int.reduceBNe, ty24, ty26, ty71, ty50, ty53, ty46, ty58, ty94, ty3, ty22, ty4, ty47, ty48, ty54, configD, policyD, topoD, spotD, cb, hd, eqty26, eqty24, eqA2, un4, e1, e2]; (first | refine ⟨_, k1, ?_⟩ | refine ⟨_, k2, ?_⟩ | refine ⟨_, k3, ?_⟩ | refine ⟨_, k4, ?_⟩)) | ((first | refine walkS_run1 [18, 9] rfl ?_ | refine walkD_run1 [18, 9] rfl ?_); simp (maxSteps := 2000000) (disch := omega) only [go_sem, ↓reduceIte, reduceCtorEq, Nat.reduceLT, Nat.reducePow, Nat.reduceLeDiff, Nat.reduceAdd, Nat.reduceMul, Nat.reduceSub, Nat.reduceEqDiff, Nat.reduceBEq, Int.reduceToNat, Int.reduceBEq, Int.reduceBNe, ty24, ty26, ty71, ty50, ty53, ty46, ty58, ty94, ty3, ty22, ty4, ty47, ty48, ty54, configD, policyD, topoD, spotD, cb, hd, eqty26, eqty24, eqA2, un4, e1, e2]; (repeat (first | refine ⟨by omega, ?_⟩ | refine ⟨True.intro, ?_⟩)))))
        refine awp_ret ⟨_, ?_, rfl⟩; rw [Try.results11]; simp (disch := omega) only [ResVars, ResVar, ptrLoc, go_sem, ↓reduceIte, reduceCtorEq, Nat.reduceLT, Nat.reducePow, Nat.reduceLeDiff, Nat.reduceAdd, Nat.reduceMul, Nat.reduceSub, Nat.reduceEqDiff, Nat.reduceBEq, Int.reduceToNat, Int.reduceBEq, Int.reduceBNe, ty24, ty26, ty71, ty50, ty53, ty46, ty58, ty94, ty3, ty22, ty4, ty47, ty48, ty54, configD, policyD, topoD, spotD, cb, hd, eqty26, eqty24, eqA2, un4, e1, e2]
  · simp only [Bool.true_or] at k4
    refine acalls_of_awp Try.func11 rfl (by decide +kernel) (by rw [Try.ntmps11]; simp) ?_; rw [Try.ntmps11]; simp only [frOf]
    (repeat (first | refine awp_seq ?_ | refine awp_yes rfl ?_ | refine awp_no rfl ?_ | refine awp_block ?_ | (refine awp_region fun K hK => ?_) | (refine awp_draw (by kernel_rfl) (by kernel_rfl) fun K hK => ?_) | (refine awp_skip ?_; (first | show AWP _ _ _ _ _ | show loopQ _ _ _ _ _ _ | (simp only [blockQ_n]; first | show AWP _ _ _ _ _ | show loopQ _ _ _ _ _ _))) | (refine awp_exit ?_; (first | show AWP _ _ _ _ _ | show loopQ _ _ _ _ _ _ | (simp only [blockQ_n]; first | show AWP _ _ _ _ _ | show loopQ _ _ _ _ _ _))) | ((first | refine walkS_end (hK _ ?_) | refine walkD_end (hK _ _ (okTrace_spec (by kernel_rfl)) ?_)); clear hK K; (first | show AWP _ _ _ _ _ | show loopQ _ _ _ _ _ _ | (simp only [blockQ_n]; first | show AWP _ _ _ _ _ | show loopQ _ _ _ _ _ _))) | ((first | refine walkS_call3 rfl rfl rfl ?_ | refine walkD_call3 rfl rfl rfl ?_); simp (maxSteps := 2000000) (disch := omega) only [go_sem, ↓reduceIte, reduceCtorEq, Nat.reduceLT, Nat.reducePow, Nat.reduceLeDiff, Nat.reduceAdd, Nat.reduceMul, Nat.reduceSub, Nat.reduceEqDiff, Nat.reduceBEq, Int.reduceToNat, Int.reduceBEq, Int.reduceBNe, ty24, ty26, ty71, ty50, ty53, ty46, ty58, ty94, ty3, ty22, ty4, ty47, ty48, ty54, configD, policyD, topoD, spotD, cb, hd, eqty26, eqty24, eqA2, un4, e1, e2]; (first | refine ⟨_, k1, ?_⟩ | refine ⟨_, k2, ?_⟩ | refine ⟨_, k3, ?_⟩ | refine ⟨_, k4, ?_⟩)) | ((first | refine walkS_run1 [18, 9] rfl ?_ | refine walkD_run1 [18, 9] rfl ?_); simp (maxSteps := 2000000) (disch := omega) only [go_sem, ↓reduceIte, reduceCtorEq, Nat.reduceLT, Nat.reducePow, Nat.reduceLeDiff, Nat.reduceAdd, Nat.reduceMul, Nat.reduceSub, Nat.reduceEqDiff, Nat.reduceBEq, Int.reduceToNat, Int.reduceBEq, Int.reduceBNe, ty24, ty26, ty71, ty50, ty53, ty46, ty58, ty94, ty3, ty22, ty4, ty47, ty48, ty54, configD, policyD, topoD, spotD, cb, hd, eqty26, eqty24, eqA2, un4, e1, e2]; (repeat (first | refine ⟨by omega, ?_⟩ | refine ⟨True.intro, ?_⟩)))))
    refine awp_ret ⟨_, ?_, rfl⟩; rw [Try.results11]; simp (disch := omega) only [ResVars, ResVar, ptrLoc, go_sem, ↓reduceIte, reduceCtorEq, Nat.reduceLT, Nat.reducePow, Nat.reduceLeDiff, Nat.reduceAdd, Nat.reduceMul, Nat.reduceSub, Nat.reduceEqDiff, Nat.reduceBEq, Int.reduceToNat, Int.reduceBEq, Int.reduceBNe, ty24, ty26, ty71, ty50, ty53, ty46, ty58, ty94, ty3, ty22, ty4, ty47, ty48, ty54, configD, policyD, topoD, spotD, cb, hd, eqty26, eqty24, eqA2, un4, e1, e2]
end Go.Proofs.Ytgfnpkpbebihgaa
