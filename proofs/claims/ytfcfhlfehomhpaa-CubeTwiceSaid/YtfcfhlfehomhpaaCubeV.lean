/- The laws of layer 2 on bits that are set: the call of each returns true. Conditions: none. -/
import Derived.Test.YtfcfhlfehomhpaaMeets
import Derived.Test.YtfcfhlfehomhpaaCubeLaw
set_option linter.unusedSimpArgs false
set_option linter.unusedVariables false
namespace Go.Proofs.Ytfcfhlfehomhpaa
open Go.Proofs.Ytfcfhlfehomhpaa.AL
theorem hasT_bits (k : Cube) (x : BitVec 128) : hasT k x = true ↔ ∀ i, i < 128 → k.c.getLsbD i = true → k.v.getLsbD i = x.getLsbD i := hasT_iff k x
theorem meet_comm (a b : Cube) : meetO a b = meetO b a ∧ meetV a b = meetV b a := by
  have e : apart a b = apart b a := by unfold apart; rw [BitVec.xor_comm, BitVec.and_comm a.c]
  have h : meetO a b = meetO b a := by unfold meetO; rw [e, Bool.and_comm a.sound]
  refine ⟨h, ?_⟩
  unfold meetV; rw [h, BitVec.or_comm a.v, BitVec.or_comm a.c]
theorem setH_bit (h : BitVec 128) (s : Cube) (j : Nat) (hj : j < 128) : (setH h s).getLsbD j = if s.c.getLsbD j then s.v.getLsbD j else h.getLsbD j := by
  unfold setH
  simp only [BitVec.getLsbD_or, BitVec.getLsbD_and, BitVec.getLsbD_not, hj, decide_true, Bool.true_and]
  cases s.c.getLsbD j <;> simp
theorem setH_twice (h : BitVec 128) (s : Cube) : setH (setH h s) s = setH h s := by
  apply BitVec.eq_of_getLsbD_eq
  intro j hj
  rw [setH_bit _ s j hj, setH_bit h s j hj]
  cases s.c.getLsbD j <;> simp
theorem mkC_sound (x y : BitVec 128) : (mkC x y).sound = true := by
  refine (sound_iff _).2 fun i hi hv => ?_
  simp only [mkC, BitVec.getLsbD_and, Bool.and_eq_true] at hv ⊢
  exact hv.2
theorem after_sound (c s : Cube) : (afterC c s).sound = true := by
  unfold afterC
  cases hc : c.sound
  · simp only [Bool.false_eq_true, if_false]; decide
  · refine (sound_iff _).2 fun i hi hv => ?_
    simp only [if_true] at hv ⊢
    rw [setH_bit _ s i hi] at hv
    rw [BitVec.getLsbD_or]
    cases hs : s.c.getLsbD i
    · rw [hs] at hv; simp at hv; rw [(sound_iff c).1 hc i hi hv]; rfl
    · simp
theorem after_within {a b s : Cube} (h : withinC a b = true) : withinC (afterC a s) (afterC b s) = true := by
  have h0 := h
  unfold withinC at h0
  simp only [Bool.and_eq_true] at h0
  obtain ⟨⟨⟨ha, hb⟩, _⟩, _⟩ := h0
  have hw := (within_iff ha hb).1 h
  refine (within_iff (after_sound a s) (after_sound b s)).2 fun i hi hc => ?_
  unfold afterC at hc ⊢
  rw [ha, hb] at *
  simp only [if_true, BitVec.getLsbD_or] at hc ⊢
  rw [setH_bit _ s i hi, setH_bit _ s i hi]
  cases hs : s.c.getLsbD i
  · rw [hs, Bool.or_false] at hc
    obtain ⟨h1, h2⟩ := hw i hi hc
    simp [h1, h2]
  · simp
theorem before_sound (c s : Cube) : (beforeV c s).sound = true := by
  unfold beforeV
  split
  · exact mkC_sound _ _
  · decide
theorem before_has {c s : Cube} (hc : c.sound = true) (h : BitVec 128) : hasT c (setH h s) = (beforeO c s && hasT (beforeV c s) h) := by
  apply bool_iff
  rw [Bool.and_eq_true, hasT_bits]
  have e : beforeO c s = true ↔ ∀ i, i < 128 → c.c.getLsbD i = true → s.c.getLsbD i = true → c.v.getLsbD i = s.v.getLsbD i := by
    unfold beforeO
    rw [hc, Bool.true_and, apart_iff]
    constructor
    · intro h i hi h1 h2
      have := h i hi h1 h2
      simpa [mkC, h2] using this
    · intro h i hi h1 h2
      have h2 : s.c.getLsbD i = true := h2
      have := h i hi h1 h2
      simp [mkC, h2, this]
  constructor
  · intro hh
    have hO := e.2 fun i hi h1 h2 => by
      have := hh i hi h1
      rw [setH_bit _ s i hi, h2] at this
      simpa using this
    refine ⟨hO, ?_⟩
    unfold beforeV
    rw [hO, if_pos rfl, hasT_bits]
    intro i hi h1
    simp only [mkC, BitVec.getLsbD_and, BitVec.getLsbD_not, hi, decide_true, Bool.true_and, Bool.and_eq_true, Bool.not_eq_true'] at h1 ⊢
    have := hh i hi h1.1
    rw [setH_bit _ s i hi, h1.2] at this
    simp [h1.1, h1.2]
    simpa using this
  · rintro ⟨hO, h2⟩ i hi h1
    have hO' := e.1 hO
    rw [setH_bit _ s i hi]
    cases hs : s.c.getLsbD i
    · unfold beforeV at h2
      rw [hO, if_pos rfl, hasT_bits] at h2
      have := h2 i hi (by simp only [mkC, BitVec.getLsbD_and, BitVec.getLsbD_not, h1, hs, decide_eq_true hi, Bool.not_false, Bool.and_self])
      simp only [mkC, BitVec.getLsbD_and, BitVec.getLsbD_not, h1, hs, decide_eq_true hi, Bool.not_false, Bool.and_self, Bool.and_true] at this
      simpa using this
    · simpa using hO' i hi h1 hs
theorem after_has {c s : Cube} (hc : c.sound = true) {h : BitVec 128} (hh : hasT c h = true) : hasT (afterC c s) (setH h s) = true := by
  have h1 := (hasT_bits c h).1 hh
  unfold afterC
  rw [hc, if_pos rfl, hasT_bits]
  intro i hi h2
  rw [setH_bit _ s i hi, setH_bit _ s i hi]
  rw [BitVec.getLsbD_or] at h2
  cases hs : s.c.getLsbD i
  · rw [hs, Bool.or_false] at h2
    simpa using h1 i hi h2
  · simp
set_option maxRecDepth 100000 in
set_option maxHeartbeats 1000000 in
theorem CubeTwice_c (a b s : Cube) (h : BitVec 128) : ACalls Try.prog 8 [.agg (cb a), .agg (cb b), .agg (cb s), .agg (hd h)] (· = [.d (.v (.bool true))]) := by
  have m1 := Meet_c a b
  have m2 := Meet_c b a
  obtain ⟨c1, c2⟩ := meet_comm a b
  rw [← c1, ← c2] at m2
  have s1 := Set_c h s
  have s2 := Set_c (setH h s) s
  rw [setH_twice] at s2
  have mk := Make_c s.v s.c
  have w1 := Within_c a b
  have a1 := After_c a (mkC s.v s.c)
  have a2 := After_c b (mkC s.v s.c)
  have w2 := Within_c (afterC a (mkC s.v s.c)) (afterC b (mkC s.v s.c))
  have sd := Sound_c (afterC a (mkC s.v s.c))
  rw [after_sound] at sd
  have hw := after_within (a := a) (b := b) (s := mkC s.v s.c)
  generalize setH h s = g at s1 s2
  generalize meetV a b = K at m1 m2
  generalize mkC s.v s.c = s' at mk a1 a2 w2 sd hw
  generalize afterC a s' = A at a1 w2 sd hw
  generalize afterC b s' = B at a2 w2 hw
  cases h1 : withinC a b <;> cases h2 : meetO a b
  all_goals
    rw [h1] at w1
    rw [h2] at m1 m2
    try rw [hw h1] at w2
    refine acalls_of_awp Try.func8 rfl (by decide +kernel) (by rw [Try.ntmps8]; simp) ?_; rw [Try.ntmps8]; simp only [frOf]
    (repeat (first | refine awp_seq ?_ | refine awp_yes rfl ?_ | refine awp_no rfl ?_ | refine awp_block ?_ | (refine awp_region fun K hK => ?_) | (refine awp_draw (by kernel_rfl) (by kernel_rfl) fun K hK => ?_) | (refine awp_skip ?_; (first | show AWP _ _ _ _ _ | show loopQ _ _ _ _ _ _)) | (refine awp_exit ?_; (first | show AWP _ _ _ _ _ | show loopQ _ _ _ _ _ _)) | ((first | refine walkS_end (hK _ ?_) | refine walkD_end (hK _ _ (okTrace_spec (by kernel_rfl)) ?_)); clear hK K; (first | show AWP _ _ _ _ _ | show loopQ _ _ _ _ _ _)) | ((first | refine walkS_call3 rfl rfl rfl ?_ | refine walkD_call3 rfl rfl rfl ?_); simp (maxSteps := 2000000) (disch := omega) only [go_sem, ↓reduceIte, reduceCtorEq, Nat.reduceLT, Nat.reducePow, Nat.reduceLeDiff, Nat.reduceAdd, Nat.reduceMul, Nat.reduceSub, Nat.reduceEqDiff, Nat.reduceBEq, Int.reduceToNat, Int.reduceBEq, Int.reduceBNe, ty24, ty26, ty22, ty3, ty4, un4, ty9, hd, cb, eqty24, eqty26, hi_zero, lo_zero, eqI_self, bne_self_eq_false]; (first | refine ⟨_, awake2_c, ?_⟩ | refine ⟨_, m1, ?_⟩ | refine ⟨_, m2, ?_⟩ | refine ⟨_, s1, ?_⟩ | refine ⟨_, s2, ?_⟩ | refine ⟨_, mk, ?_⟩ | refine ⟨_, w1, ?_⟩ | refine ⟨_, w2, ?_⟩ | refine ⟨_, a1, ?_⟩ | refine ⟨_, a2, ?_⟩ | refine ⟨_, sd, ?_⟩)) | ((first | refine walkS_run1 [6] rfl ?_ | refine walkD_run1 [6] rfl ?_); simp (maxSteps := 2000000) (disch := omega) only [go_sem, ↓reduceIte, reduceCtorEq, Nat.reduceLT, Nat.reducePow, Nat.reduceLeDiff, Nat.reduceAdd, Nat.reduceMul, Nat.reduceSub, Nat.reduceEqDiff, Nat.reduceBEq, Int.reduceToNat, Int.reduceBEq, Int.reduceBNe, ty24, ty26, ty22, ty3, ty4, un4, ty9, hd, cb, eqty24, eqty26, hi_zero, lo_zero, eqI_self, bne_self_eq_false]; (repeat (first | refine ⟨by omega, ?_⟩ | refine ⟨True.intro, ?_⟩)))))
    refine awp_ret ⟨_, ?_, rfl⟩; rw [Try.results8]; simp (disch := omega) only [ResVars, ResVar, ptrLoc, go_sem, ↓reduceIte, reduceCtorEq, Nat.reduceLT, Nat.reducePow, Nat.reduceLeDiff, Nat.reduceAdd, Nat.reduceMul, Nat.reduceSub, Nat.reduceEqDiff, Nat.reduceBEq, Int.reduceToNat, Int.reduceBEq, Int.reduceBNe, ty24, ty26, ty22, ty3, ty4, un4, ty9, hd, cb, eqty24, eqty26, hi_zero, lo_zero, eqI_self, bne_self_eq_false]
set_option maxRecDepth 100000 in
set_option maxHeartbeats 1000000 in
theorem CubeSets_c (c s : Cube) (h : BitVec 128) : ACalls Try.prog 9 [.agg (cb c), .agg (cb s), .agg (hd h)] (· = [.d (.v (.bool true))]) := by
  have s1 := Set_c h s
  have s2 := SetT_c h s
  have bf := Before_c c s
  have af := After_c c s
  have tc := Text_c c
  cases hc : c.sound
  · have hO : beforeO c s = false := by unfold beforeO; rw [hc]; rfl
    have hV : beforeV c s = ⟨0, 0⟩ := by unfold beforeV; rw [hO]; rfl
    have hA : afterC c s = ⟨0, 0⟩ := by unfold afterC; rw [hc]; rfl
    rw [hO, hV] at bf
    rw [hA] at af
    rw [hc] at tc
    generalize setH h s = g at s1 s2
    refine acalls_of_awp Try.func9 rfl (by decide +kernel) (by rw [Try.ntmps9]; simp) ?_; rw [Try.ntmps9]; simp only [frOf]
    (repeat (first | refine awp_seq ?_ | refine awp_yes rfl ?_ | refine awp_no rfl ?_ | refine awp_block ?_ | (refine awp_region fun K hK => ?_) | (refine awp_draw (by kernel_rfl) (by kernel_rfl) fun K hK => ?_) | (refine awp_skip ?_; (first | show AWP _ _ _ _ _ | show loopQ _ _ _ _ _ _)) | (refine awp_exit ?_; (first | show AWP _ _ _ _ _ | show loopQ _ _ _ _ _ _)) | ((first | refine walkS_end (hK _ ?_) | refine walkD_end (hK _ _ (okTrace_spec (by kernel_rfl)) ?_)); clear hK K; (first | show AWP _ _ _ _ _ | show loopQ _ _ _ _ _ _)) | ((first | refine walkS_call3 rfl rfl rfl ?_ | refine walkD_call3 rfl rfl rfl ?_); simp (maxSteps := 2000000) (disch := omega) only [go_sem, ↓reduceIte, reduceCtorEq, Nat.reduceLT, Nat.reducePow, Nat.reduceLeDiff, Nat.reduceAdd, Nat.reduceMul, Nat.reduceSub, Nat.reduceEqDiff, Nat.reduceBEq, Int.reduceToNat, Int.reduceBEq, Int.reduceBNe, ty24, ty26, ty22, ty3, ty4, un4, ty9, hd, cb, eqty24, eqty26, hi_zero, lo_zero, eqI_self, bne_self_eq_false]; (first | refine ⟨_, s1, ?_⟩ | refine ⟨_, s2, ?_⟩ | refine ⟨_, bf, ?_⟩ | refine ⟨_, af, ?_⟩ | refine ⟨_, tc, ?_⟩ | refine ⟨_, awake2_c, ?_⟩)) | ((first | refine walkS_run1 [] rfl ?_ | refine walkD_run1 [] rfl ?_); simp (maxSteps := 2000000) (disch := omega) only [go_sem, ↓reduceIte, reduceCtorEq, Nat.reduceLT, Nat.reducePow, Nat.reduceLeDiff, Nat.reduceAdd, Nat.reduceMul, Nat.reduceSub, Nat.reduceEqDiff, Nat.reduceBEq, Int.reduceToNat, Int.reduceBEq, Int.reduceBNe, ty24, ty26, ty22, ty3, ty4, un4, ty9, hd, cb, eqty24, eqty26, hi_zero, lo_zero, eqI_self, bne_self_eq_false]; (repeat (first | refine ⟨by omega, ?_⟩ | refine ⟨True.intro, ?_⟩)))))
    refine awp_ret ⟨_, ?_, rfl⟩; rw [Try.results9]; simp (disch := omega) only [ResVars, ResVar, ptrLoc, go_sem, ↓reduceIte, reduceCtorEq, Nat.reduceLT, Nat.reducePow, Nat.reduceLeDiff, Nat.reduceAdd, Nat.reduceMul, Nat.reduceSub, Nat.reduceEqDiff, Nat.reduceBEq, Int.reduceToNat, Int.reduceBEq, Int.reduceBNe, ty24, ty26, ty22, ty3, ty4, un4, ty9, hd, cb, eqty24, eqty26, hi_zero, lo_zero, eqI_self, bne_self_eq_false]
  · have ta := Text_c (afterC c s)
    have tb := Text_c (beforeV c s)
    have h1 := Hast_c c (setH h s)
    have h2 := Hast_c (beforeV c s) h
    have h3 := Hast_c c h
    have h4 := Hast_c (afterC c s) (setH h s)
    rw [after_sound] at ta
    rw [before_sound] at tb
    rw [hc] at tc
    rw [before_has hc] at h1
    simp only [if_true] at ta tb tc
    have hah := fun hh => after_has (s := s) hc (h := h) hh
    have hV : beforeO c s = false → beforeV c s = ⟨0, 0⟩ := by intro e; unfold beforeV; rw [e]; rfl
    cases e : beforeO c s
    all_goals
      rw [e] at bf h1
    · rw [hV e] at bf tb
      simp only [Bool.false_and] at h1
      clear h2
      generalize setH h s = g at s1 s2 h1 h4 hah
      generalize afterC c s = A at af ta h4 hah
      generalize txt A = tA at ta h4
      generalize txt c = tC at tc h1 h3
      generalize txt ⟨0, 0⟩ = t0 at tb
      cases e2 : hasT c h
      all_goals
        rw [e2] at h3
        try rw [hah e2] at h4
        refine acalls_of_awp Try.func9 rfl (by decide +kernel) (by rw [Try.ntmps9]; simp) ?_; rw [Try.ntmps9]; simp only [frOf]
        (repeat (first | refine awp_seq ?_ | refine awp_yes rfl ?_ | refine awp_no rfl ?_ | refine awp_block ?_ | (refine awp_region fun K hK => ?_) | (refine awp_draw (by kernel_rfl) (by kernel_rfl) fun K hK => ?_) | (refine awp_skip ?_; (first | show AWP _ _ _ _ _ | show loopQ _ _ _ _ _ _)) | (refine awp_exit ?_; (first | show AWP _ _ _ _ _ | show loopQ _ _ _ _ _ _)) | ((first | refine walkS_end (hK _ ?_) | refine walkD_end (hK _ _ (okTrace_spec (by kernel_rfl)) ?_)); clear hK K; (first | show AWP _ _ _ _ _ | show loopQ _ _ _ _ _ _)) | ((first | refine walkS_call3 rfl rfl rfl ?_ | refine walkD_call3 rfl rfl rfl ?_); simp (maxSteps := 2000000) (disch := omega) only [go_sem, ↓reduceIte, reduceCtorEq, Nat.reduceLT, Nat.reducePow, Nat.reduceLeDiff, Nat.reduceAdd, Nat.reduceMul, Nat.reduceSub, Nat.reduceEqDiff, Nat.reduceBEq, Int.reduceToNat, Int.reduceBEq, Int.reduceBNe, ty24, ty26, ty22, ty3, ty4, un4, ty9, hd, cb, eqty24, eqty26, hi_zero, lo_zero, eqI_self, bne_self_eq_false]; (first | refine ⟨_, s1, ?_⟩ | refine ⟨_, s2, ?_⟩ | refine ⟨_, bf, ?_⟩ | refine ⟨_, af, ?_⟩ | refine ⟨_, tc, ?_⟩ | refine ⟨_, ta, ?_⟩ | refine ⟨_, tb, ?_⟩ | refine ⟨_, h1, ?_⟩ | refine ⟨_, h3, ?_⟩ | refine ⟨_, h4, ?_⟩ | refine ⟨_, awake2_c, ?_⟩)) | ((first | refine walkS_run1 [] rfl ?_ | refine walkD_run1 [] rfl ?_); simp (maxSteps := 2000000) (disch := omega) only [go_sem, ↓reduceIte, reduceCtorEq, Nat.reduceLT, Nat.reducePow, Nat.reduceLeDiff, Nat.reduceAdd, Nat.reduceMul, Nat.reduceSub, Nat.reduceEqDiff, Nat.reduceBEq, Int.reduceToNat, Int.reduceBEq, Int.reduceBNe, ty24, ty26, ty22, ty3, ty4, un4, ty9, hd, cb, eqty24, eqty26, hi_zero, lo_zero, eqI_self, bne_self_eq_false]; (repeat (first | refine ⟨by omega, ?_⟩ | refine ⟨True.intro, ?_⟩)))))
        refine awp_ret ⟨_, ?_, rfl⟩; rw [Try.results9]; simp (disch := omega) only [ResVars, ResVar, ptrLoc, go_sem, ↓reduceIte, reduceCtorEq, Nat.reduceLT, Nat.reducePow, Nat.reduceLeDiff, Nat.reduceAdd, Nat.reduceMul, Nat.reduceSub, Nat.reduceEqDiff, Nat.reduceBEq, Int.reduceToNat, Int.reduceBEq, Int.reduceBNe, ty24, ty26, ty22, ty3, ty4, un4, ty9, hd, cb, eqty24, eqty26, hi_zero, lo_zero, eqI_self, bne_self_eq_false]
    · simp only [Bool.true_and] at h1
      generalize setH h s = g at s1 s2 h1 h4 hah
      generalize afterC c s = A at af ta h4 hah
      generalize beforeV c s = B at bf tb h1 h2
      generalize txt A = tA at ta h4
      generalize txt c = tC at tc h1 h3
      generalize txt B = tB at tb h2
      cases e2 : hasT c h <;> cases e3 : hasT B h
      all_goals
        rw [e2] at h3
        rw [e3] at h1 h2
        try rw [hah e2] at h4
        refine acalls_of_awp Try.func9 rfl (by decide +kernel) (by rw [Try.ntmps9]; simp) ?_; rw [Try.ntmps9]; simp only [frOf]
        (repeat (first | refine awp_seq ?_ | refine awp_yes rfl ?_ | refine awp_no rfl ?_ | refine awp_block ?_ | (refine awp_region fun K hK => ?_) | (refine awp_draw (by kernel_rfl) (by kernel_rfl) fun K hK => ?_) | (refine awp_skip ?_; (first | show AWP _ _ _ _ _ | show loopQ _ _ _ _ _ _)) | (refine awp_exit ?_; (first | show AWP _ _ _ _ _ | show loopQ _ _ _ _ _ _)) | ((first | refine walkS_end (hK _ ?_) | refine walkD_end (hK _ _ (okTrace_spec (by kernel_rfl)) ?_)); clear hK K; (first | show AWP _ _ _ _ _ | show loopQ _ _ _ _ _ _)) | ((first | refine walkS_call3 rfl rfl rfl ?_ | refine walkD_call3 rfl rfl rfl ?_); simp (maxSteps := 2000000) (disch := omega) only [go_sem, ↓reduceIte, reduceCtorEq, Nat.reduceLT, Nat.reducePow, Nat.reduceLeDiff, Nat.reduceAdd, Nat.reduceMul, Nat.reduceSub, Nat.reduceEqDiff, Nat.reduceBEq, Int.reduceToNat, Int.reduceBEq, Int.reduceBNe, ty24, ty26, ty22, ty3, ty4, un4, ty9, hd, cb, eqty24, eqty26, hi_zero, lo_zero, eqI_self, bne_self_eq_false]; (first | refine ⟨_, s1, ?_⟩ | refine ⟨_, s2, ?_⟩ | refine ⟨_, bf, ?_⟩ | refine ⟨_, af, ?_⟩ | refine ⟨_, tc, ?_⟩ | refine ⟨_, ta, ?_⟩ | refine ⟨_, tb, ?_⟩ | refine ⟨_, h1, ?_⟩ | refine ⟨_, h2, ?_⟩ | refine ⟨_, h3, ?_⟩ | refine ⟨_, h4, ?_⟩ | refine ⟨_, awake2_c, ?_⟩)) | ((first | refine walkS_run1 [] rfl ?_ | refine walkD_run1 [] rfl ?_); simp (maxSteps := 2000000) (disch := omega) only [go_sem, ↓reduceIte, reduceCtorEq, Nat.reduceLT, Nat.reducePow, Nat.reduceLeDiff, Nat.reduceAdd, Nat.reduceMul, Nat.reduceSub, Nat.reduceEqDiff, Nat.reduceBEq, Int.reduceToNat, Int.reduceBEq, Int.reduceBNe, ty24, ty26, ty22, ty3, ty4, un4, ty9, hd, cb, eqty24, eqty26, hi_zero, lo_zero, eqI_self, bne_self_eq_false]; (repeat (first | refine ⟨by omega, ?_⟩ | refine ⟨True.intro, ?_⟩)))))
        refine awp_ret ⟨_, ?_, rfl⟩; rw [Try.results9]; simp (disch := omega) only [ResVars, ResVar, ptrLoc, go_sem, ↓reduceIte, reduceCtorEq, Nat.reduceLT, Nat.reducePow, Nat.reduceLeDiff, Nat.reduceAdd, Nat.reduceMul, Nat.reduceSub, Nat.reduceEqDiff, Nat.reduceBEq, Int.reduceToNat, Int.reduceBEq, Int.reduceBNe, ty24, ty26, ty22, ty3, ty4, un4, ty9, hd, cb, eqty24, eqty26, hi_zero, lo_zero, eqI_self, bne_self_eq_false]
end Go.Proofs.Ytfcfhlfehomhpaa
