/- PileJoins, PileOnce: the laws' calls return true. Conditions: none, but that no row is greater than memory bears. -/
import Derived.Test.YtfcfhlfehomhpaaAwake3
import Derived.Test.YtfcfhlfehomhpaaRef7
set_option linter.unusedSimpArgs false
set_option linter.unusedVariables false
namespace Go.Proofs.Ytfcfhlfehomhpaa
open Go.Proofs.Ytfcfhlfehomhpaa.AL
theorem acalls_sl {P : Program} {f : FuncId} {sz n n' : Nat} {g g' : Nat → List Dat} {xs : List PV} {Q : List PV → Prop} (hn : n' = n) (hg : ∀ i, i < n → g' i = g i) (h : ACalls P f (.d (.sl sz n g) :: xs) Q) : ACalls P f (.d (.sl sz n' g') :: xs) Q := by
  subst hn
  refine acalls_iff.2 fun w k vs hz hr => acalls_iff.1 h w k vs hz ?_
  obtain ⟨v, vs', rfl, h1, h2⟩ := hr.cons_inv
  cases h1 with
  | d _ _ h1 => exact RelPs.cons (.d _ _ (h1.sl_congr hg)) h2
theorem small_c (p : List Cube) (hl : p.length ≤ 1099511627776) : ACalls Try.prog 46 [.d (.sl 4 p.length (rowC p))] (· = [.d (.sl 4 (p.take 12).length (rowC (p.take 12)))]) := by
  by_cases h : p.length > 12
  all_goals
    refine acalls_of_awp Try.func46 rfl (by decide +kernel) (by rw [Try.ntmps46]; simp) ?_; rw [Try.ntmps46]; simp only [frOf]
    (repeat (first | refine awp_seq ?_ | refine awp_yes rfl ?_ | refine awp_no rfl ?_ | refine awp_block ?_ | (refine awp_region fun K hK => ?_) | (refine awp_draw (by kernel_rfl) (by kernel_rfl) fun K hK => ?_) | (refine awp_skip ?_; (first | show AWP _ _ _ _ _ | show loopQ _ _ _ _ _ _)) | (refine awp_exit ?_; (first | show AWP _ _ _ _ _ | show loopQ _ _ _ _ _ _)) | ((first | refine walkS_end (hK _ ?_) | refine walkD_end (hK _ _ (okTrace_spec (by kernel_rfl)) ?_)); clear hK K; (first | show AWP _ _ _ _ _ | show loopQ _ _ _ _ _ _)) | ((first | refine walkS_run1 [] rfl ?_ | refine walkD_run1 [] rfl ?_); simp (maxSteps := 2000000) (disch := omega) only [go_sem, ↓reduceIte, reduceCtorEq, Nat.reduceLT, Nat.reducePow, Nat.reduceLeDiff, Nat.reduceAdd, Nat.reduceMul, Nat.reduceSub, Nat.reduceEqDiff, Nat.reduceBEq, Int.reduceToNat, Int.reduceBEq, Int.reduceBNe, ty24, ty26, ty36, ty22, ty3, ty4, ty9, ty41, un4, ty48, hd, cb, eqty24, eqty26]; (repeat (first | refine ⟨by omega, ?_⟩ | refine ⟨True.intro, ?_⟩)))))
  · refine awp_slot 2 _ (.p (.d (.sl 4 (p.take 12).length (rowC (p.take 12))))) rfl (le_sl (by simp; omega) (fun i hi => ?_)) ?_
    · unfold rowC
      simp only [List.getD_eq_getElem?_getD]
      rw [List.getElem?_take_of_lt (by omega)]
    refine awp_ret ⟨_, ?_, rfl⟩; rw [Try.results46]; simp (disch := omega) only [ResVars, ResVar, ptrLoc, go_sem, ↓reduceIte, reduceCtorEq, Nat.reduceLT, Nat.reducePow, Nat.reduceLeDiff, Nat.reduceAdd, Nat.reduceMul, Nat.reduceSub, Nat.reduceEqDiff, Nat.reduceBEq, Int.reduceToNat, Int.reduceBEq, Int.reduceBNe, ty24, ty26, ty36, ty22, ty3, ty4, ty9, ty41, un4, ty48, hd, cb, eqty24, eqty26]
  · rw [List.take_of_length_le (by omega)]
    refine awp_ret ⟨_, ?_, rfl⟩; rw [Try.results46]; simp (disch := omega) only [ResVars, ResVar, ptrLoc, go_sem, ↓reduceIte, reduceCtorEq, Nat.reduceLT, Nat.reducePow, Nat.reduceLeDiff, Nat.reduceAdd, Nat.reduceMul, Nat.reduceSub, Nat.reduceEqDiff, Nat.reduceBEq, Int.reduceToNat, Int.reduceBEq, Int.reduceBNe, ty24, ty26, ty36, ty22, ty3, ty4, ty9, ty41, un4, ty48, hd, cb, eqty24, eqty26]
set_option maxRecDepth 100000 in
set_option maxHeartbeats 4000000 in
theorem PileJoins_c (a b : List Cube) (ha : a.length ≤ 1099511627776) (hb : b.length ≤ 1099511627776) : ACalls Try.prog 13 [.d (.sl 4 a.length (rowC a)), .d (.sl 4 b.length (rowC b))] (· = [.d (.v (.bool true))]) := by
  have s1 := small_c a ha
  have s2 := small_c b hb
  have l1 : (a.take 12).length ≤ 12 := by simp; omega
  have l2 : (b.take 12).length ≤ 12 := by simp; omega
  generalize a.take 12 = qa at s1 l1
  generalize b.take 12 = qb at s2 l2
  have t1 := Texts_c qa (by omega)
  have t2 := Texts_c qb (by omega)
  have jn := JoinP_c qa qb (by omega) (by omega)
  have mt := MeetP_c qa qb (by omega) (by omega)
  have ls := LessP_c qa qb (by omega) (by omega)
  have wi := WithinP_c qa qb (by omega) (by omega)
  unfold joinV joinE at jn
  unfold lessPR at ls wi
  cases p : soundP qa
  · rw [p] at jn mt ls wi t1
    simp only [Bool.false_and, Bool.false_eq_true, if_false] at jn mt ls wi
    generalize textsV qa = v1 at t1
    generalize textsV qb = v2 at t2
    generalize soundP qb = q at t2
    refine acalls_of_awp Try.func13 rfl (by decide +kernel) (by rw [Try.ntmps13]; simp) ?_; rw [Try.ntmps13]; simp only [frOf]
    (repeat ((fail_if_success (show AWP _ _ (.region 9 _ _) _ _)); first | refine awp_seq ?_ | refine awp_yes rfl ?_ | refine awp_no rfl ?_ | refine awp_block ?_ | (refine awp_region fun K hK => ?_) | (refine awp_draw (by kernel_rfl) (by kernel_rfl) fun K hK => ?_) | (refine awp_skip ?_; (first | show AWP _ _ _ _ _ | show loopQ _ _ _ _ _ _)) | (refine awp_exit ?_; (first | show AWP _ _ _ _ _ | show loopQ _ _ _ _ _ _)) | ((first | refine walkS_end (hK _ ?_) | refine walkD_end (hK _ _ (okTrace_spec (by kernel_rfl)) ?_)); clear hK K; (first | show AWP _ _ _ _ _ | show loopQ _ _ _ _ _ _)) | ((first | refine walkS_call3 rfl rfl rfl ?_ | refine walkD_call3 rfl rfl rfl ?_); simp (maxSteps := 2000000) (disch := omega) only [go_sem, ↓reduceIte, reduceCtorEq, Nat.reduceLT, Nat.reducePow, Nat.reduceLeDiff, Nat.reduceAdd, Nat.reduceMul, Nat.reduceSub, Nat.reduceEqDiff, Nat.reduceBEq, Int.reduceToNat, Int.reduceBEq, Int.reduceBNe, ty24, ty26, ty36, ty22, ty3, ty4, ty9, ty41, un4, ty48, hd, cb, eqty24, eqty26]; (first | refine ⟨_, s1, ?_⟩ | refine ⟨_, s2, ?_⟩ | refine ⟨_, t1, ?_⟩ | refine ⟨_, t2, ?_⟩ | refine ⟨_, jn, ?_⟩ | refine ⟨_, mt, ?_⟩ | refine ⟨_, ls, ?_⟩ | refine ⟨_, wi, ?_⟩)) | ((first | refine walkS_run1 [106] rfl ?_ | refine walkD_run1 [106] rfl ?_); simp (maxSteps := 2000000) (disch := omega) only [go_sem, ↓reduceIte, reduceCtorEq, Nat.reduceLT, Nat.reducePow, Nat.reduceLeDiff, Nat.reduceAdd, Nat.reduceMul, Nat.reduceSub, Nat.reduceEqDiff, Nat.reduceBEq, Int.reduceToNat, Int.reduceBEq, Int.reduceBNe, ty24, ty26, ty36, ty22, ty3, ty4, ty9, ty41, un4, ty48, hd, cb, eqty24, eqty26]; (repeat (first | refine ⟨by omega, ?_⟩ | refine ⟨True.intro, ?_⟩)))))
    (repeat (first | refine awp_seq ?_ | refine awp_yes rfl ?_ | refine awp_no rfl ?_ | refine awp_block ?_ | (refine awp_region fun K hK => ?_) | (refine awp_draw (by kernel_rfl) (by kernel_rfl) fun K hK => ?_) | (refine awp_skip ?_; (first | show AWP _ _ _ _ _ | show loopQ _ _ _ _ _ _)) | (refine awp_exit ?_; (first | show AWP _ _ _ _ _ | show loopQ _ _ _ _ _ _)) | ((first | refine walkS_end (hK _ ?_) | refine walkD_end (hK _ _ (okTrace_spec (by kernel_rfl)) ?_)); clear hK K; (first | show AWP _ _ _ _ _ | show loopQ _ _ _ _ _ _)) | ((first | refine walkS_call3 rfl rfl rfl ?_ | refine walkD_call3 rfl rfl rfl ?_); simp (maxSteps := 2000000) (disch := omega) only [go_sem, ↓reduceIte, reduceCtorEq, Nat.reduceLT, Nat.reducePow, Nat.reduceLeDiff, Nat.reduceAdd, Nat.reduceMul, Nat.reduceSub, Nat.reduceEqDiff, Nat.reduceBEq, Int.reduceToNat, Int.reduceBEq, Int.reduceBNe, ty24, ty26, ty36, ty22, ty3, ty4, ty9, ty41, un4, ty48, hd, cb, eqty24, eqty26]; (first | refine ⟨_, awake3_c, ?_⟩)) | ((first | refine walkS_run1 [106] rfl ?_ | refine walkD_run1 [106] rfl ?_); simp (maxSteps := 2000000) (disch := omega) only [go_sem, ↓reduceIte, reduceCtorEq, Nat.reduceLT, Nat.reducePow, Nat.reduceLeDiff, Nat.reduceAdd, Nat.reduceMul, Nat.reduceSub, Nat.reduceEqDiff, Nat.reduceBEq, Int.reduceToNat, Int.reduceBEq, Int.reduceBNe, ty24, ty26, ty36, ty22, ty3, ty4, ty9, ty41, un4, ty48, hd, cb, eqty24, eqty26]; (repeat (first | refine ⟨by omega, ?_⟩ | refine ⟨True.intro, ?_⟩)))))
    refine awp_ret ⟨_, ?_, rfl⟩; rw [Try.results13]; simp (disch := omega) only [ResVars, ResVar, ptrLoc, go_sem, ↓reduceIte, reduceCtorEq, Nat.reduceLT, Nat.reducePow, Nat.reduceLeDiff, Nat.reduceAdd, Nat.reduceMul, Nat.reduceSub, Nat.reduceEqDiff, Nat.reduceBEq, Int.reduceToNat, Int.reduceBEq, Int.reduceBNe, ty24, ty26, ty36, ty22, ty3, ty4, ty9, ty41, un4, ty48, hd, cb, eqty24, eqty26]
    rfl
  · cases q : soundP qb
    · rw [p, q] at jn mt ls wi
      rw [p] at t1
      rw [q] at t2
      simp only [Bool.and_false, Bool.false_eq_true, if_false] at jn mt ls wi
      generalize textsV qa = v1 at t1
      generalize textsV qb = v2 at t2
      refine acalls_of_awp Try.func13 rfl (by decide +kernel) (by rw [Try.ntmps13]; simp) ?_; rw [Try.ntmps13]; simp only [frOf]
      (repeat ((fail_if_success (show AWP _ _ (.region 9 _ _) _ _)); first | refine awp_seq ?_ | refine awp_yes rfl ?_ | refine awp_no rfl ?_ | refine awp_block ?_ | (refine awp_region fun K hK => ?_) | (refine awp_draw (by kernel_rfl) (by kernel_rfl) fun K hK => ?_) | (refine awp_skip ?_; (first | show AWP _ _ _ _ _ | show loopQ _ _ _ _ _ _)) | (refine awp_exit ?_; (first | show AWP _ _ _ _ _ | show loopQ _ _ _ _ _ _)) | ((first | refine walkS_end (hK _ ?_) | refine walkD_end (hK _ _ (okTrace_spec (by kernel_rfl)) ?_)); clear hK K; (first | show AWP _ _ _ _ _ | show loopQ _ _ _ _ _ _)) | ((first | refine walkS_call3 rfl rfl rfl ?_ | refine walkD_call3 rfl rfl rfl ?_); simp (maxSteps := 2000000) (disch := omega) only [go_sem, ↓reduceIte, reduceCtorEq, Nat.reduceLT, Nat.reducePow, Nat.reduceLeDiff, Nat.reduceAdd, Nat.reduceMul, Nat.reduceSub, Nat.reduceEqDiff, Nat.reduceBEq, Int.reduceToNat, Int.reduceBEq, Int.reduceBNe, ty24, ty26, ty36, ty22, ty3, ty4, ty9, ty41, un4, ty48, hd, cb, eqty24, eqty26]; (first | refine ⟨_, s1, ?_⟩ | refine ⟨_, s2, ?_⟩ | refine ⟨_, t1, ?_⟩ | refine ⟨_, t2, ?_⟩ | refine ⟨_, jn, ?_⟩ | refine ⟨_, mt, ?_⟩ | refine ⟨_, ls, ?_⟩ | refine ⟨_, wi, ?_⟩)) | ((first | refine walkS_run1 [106] rfl ?_ | refine walkD_run1 [106] rfl ?_); simp (maxSteps := 2000000) (disch := omega) only [go_sem, ↓reduceIte, reduceCtorEq, Nat.reduceLT, Nat.reducePow, Nat.reduceLeDiff, Nat.reduceAdd, Nat.reduceMul, Nat.reduceSub, Nat.reduceEqDiff, Nat.reduceBEq, Int.reduceToNat, Int.reduceBEq, Int.reduceBNe, ty24, ty26, ty36, ty22, ty3, ty4, ty9, ty41, un4, ty48, hd, cb, eqty24, eqty26]; (repeat (first | refine ⟨by omega, ?_⟩ | refine ⟨True.intro, ?_⟩)))))
      (repeat (first | refine awp_seq ?_ | refine awp_yes rfl ?_ | refine awp_no rfl ?_ | refine awp_block ?_ | (refine awp_region fun K hK => ?_) | (refine awp_draw (by kernel_rfl) (by kernel_rfl) fun K hK => ?_) | (refine awp_skip ?_; (first | show AWP _ _ _ _ _ | show loopQ _ _ _ _ _ _)) | (refine awp_exit ?_; (first | show AWP _ _ _ _ _ | show loopQ _ _ _ _ _ _)) | ((first | refine walkS_end (hK _ ?_) | refine walkD_end (hK _ _ (okTrace_spec (by kernel_rfl)) ?_)); clear hK K; (first | show AWP _ _ _ _ _ | show loopQ _ _ _ _ _ _)) | ((first | refine walkS_call3 rfl rfl rfl ?_ | refine walkD_call3 rfl rfl rfl ?_); simp (maxSteps := 2000000) (disch := omega) only [go_sem, ↓reduceIte, reduceCtorEq, Nat.reduceLT, Nat.reducePow, Nat.reduceLeDiff, Nat.reduceAdd, Nat.reduceMul, Nat.reduceSub, Nat.reduceEqDiff, Nat.reduceBEq, Int.reduceToNat, Int.reduceBEq, Int.reduceBNe, ty24, ty26, ty36, ty22, ty3, ty4, ty9, ty41, un4, ty48, hd, cb, eqty24, eqty26]; (first | refine ⟨_, awake3_c, ?_⟩)) | ((first | refine walkS_run1 [106] rfl ?_ | refine walkD_run1 [106] rfl ?_); simp (maxSteps := 2000000) (disch := omega) only [go_sem, ↓reduceIte, reduceCtorEq, Nat.reduceLT, Nat.reducePow, Nat.reduceLeDiff, Nat.reduceAdd, Nat.reduceMul, Nat.reduceSub, Nat.reduceEqDiff, Nat.reduceBEq, Int.reduceToNat, Int.reduceBEq, Int.reduceBNe, ty24, ty26, ty36, ty22, ty3, ty4, ty9, ty41, un4, ty48, hd, cb, eqty24, eqty26]; (repeat (first | refine ⟨by omega, ?_⟩ | refine ⟨True.intro, ?_⟩)))))
      refine awp_ret ⟨_, ?_, rfl⟩; rw [Try.results13]; simp (disch := omega) only [ResVars, ResVar, ptrLoc, go_sem, ↓reduceIte, reduceCtorEq, Nat.reduceLT, Nat.reducePow, Nat.reduceLeDiff, Nat.reduceAdd, Nat.reduceMul, Nat.reduceSub, Nat.reduceEqDiff, Nat.reduceBEq, Int.reduceToNat, Int.reduceBEq, Int.reduceBNe, ty24, ty26, ty36, ty22, ty3, ty4, ty9, ty41, un4, ty48, hd, cb, eqty24, eqty26]
      rfl
    · rw [p, q] at jn mt ls wi
      rw [p, textsV_sound p] at t1
      rw [q, textsV_sound q] at t2
      simp only [Bool.and_true, if_true] at jn mt ls wi
      have sa := soundP_all p
      have sb := soundP_all q
      have hm1 := meetsP_len qa qb
      have hm2 : qa.length * qb.length ≤ 12 * 12 := Nat.mul_le_mul l1 l2
      have e1 := leanE_of (qa ++ qb) (by simp; omega)
      have e2 := leanE_of (meetsP qa qb) (by omega)
      rw [e1, leanE_val _ e1] at jn
      rw [e2, leanE_val _ e2] at mt
      have le1 := leanP_len (qa ++ qb)
      have le2 := leanP_len (meetsP qa qb)
      rw [List.length_append] at le1
      have lt1 := LeanT_c (qa ++ qb) (fun k hk => by rcases List.mem_append.1 hk with h | h; exact sa k h; exact sb k h) (by simp; omega)
      have mtt := MeetTP_c qa qb sa sb (by omega) (by omega)
      have sm : ∀ k ∈ meetsP qa qb, k.sound = true := by
        intro k hk
        obtain ⟨x, hx, hk⟩ := List.mem_flatMap.1 hk
        obtain ⟨y, hy, hk⟩ := List.mem_filterMap.1 hk
        unfold meetOne at hk
        split at hk
        · cases hk; exact sound_meet ‹_›
        · cases hk
      have lt2 := LeanT_c (meetsP qa qb) sm (by omega)
      have sr1 := SameR_c (leanP (qa ++ qb)) (fun k hk => (leanP_mem hk).2) (by omega)
      have sr2 := SameR_c (leanP (meetsP qa qb)) (fun k hk => (leanP_mem hk).2) (by omega)
      have hcat : ∀ i, i < (qa ++ qb).length → catF qa.length (catF 0 (fun _ => []) (rowT qa)) (rowT qb) i = rowT (qa ++ qb) i := by
        intro i hi
        rw [← rowT_cat qa qb i]
        unfold catF
        split
        · simp
        · rfl
      generalize hj : leanP (qa ++ qb) = J at jn lt1 sr1 le1
      generalize leanP (meetsP qa qb) = K at mt lt2 sr2 le2
      generalize meetsP qa qb = Z at mtt lt2
      have lst := LessTP_c qa qb sa sb (by omega) (by omega) _ rfl
      have hso := fun h => less_has h qb qa sb sa
      have hll := lessP_len qb qa (by omega)
      rcases lessP_or qb qa with h0 | ⟨h0, h1⟩
      · have sr3 := SameR_c (lessP qb qa).1 (hso 0 h0).2 (by omega)
        rw [h0] at ls wi lst
        generalize (lessP qb qa).1 = R at ls wi lst sr3 hll
        cases R with
        | nil =>
          refine acalls_of_awp Try.func13 rfl (by decide +kernel) (by rw [Try.ntmps13]; simp) ?_; rw [Try.ntmps13]; simp only [frOf]
          (repeat ((fail_if_success (show AWP _ _ (.region 8 _ _) _ _)); first | refine awp_seq ?_ | refine awp_yes rfl ?_ | refine awp_no rfl ?_ | refine awp_block ?_ | (refine awp_region fun K hK => ?_) | (refine awp_draw (by kernel_rfl) (by kernel_rfl) fun K hK => ?_) | (refine awp_skip ?_; (first | show AWP _ _ _ _ _ | show loopQ _ _ _ _ _ _)) | (refine awp_exit ?_; (first | show AWP _ _ _ _ _ | show loopQ _ _ _ _ _ _)) | ((first | refine walkS_end (hK _ ?_) | refine walkD_end (hK _ _ (okTrace_spec (by kernel_rfl)) ?_)); clear hK K; (first | show AWP _ _ _ _ _ | show loopQ _ _ _ _ _ _)) | ((first | refine walkS_call3 rfl rfl rfl ?_ | refine walkD_call3 rfl rfl rfl ?_); simp (maxSteps := 2000000) (disch := omega) only [go_sem, ↓reduceIte, reduceCtorEq, Nat.reduceLT, Nat.reducePow, Nat.reduceLeDiff, Nat.reduceAdd, Nat.reduceMul, Nat.reduceSub, Nat.reduceEqDiff, Nat.reduceBEq, Int.reduceToNat, Int.reduceBEq, Int.reduceBNe, ty24, ty26, ty36, ty22, ty3, ty4, ty9, ty41, un4, ty48, hd, cb, eqty24, eqty26]; (first | refine ⟨_, s1, ?_⟩ | refine ⟨_, s2, ?_⟩ | refine ⟨_, t1, ?_⟩ | refine ⟨_, t2, ?_⟩ | refine ⟨_, jn, ?_⟩ | refine ⟨_, mt, ?_⟩ | refine ⟨_, ls, ?_⟩ | refine ⟨_, wi, ?_⟩)) | ((first | refine walkS_run1 [106] rfl ?_ | refine walkD_run1 [106] rfl ?_); simp (maxSteps := 2000000) (disch := omega) only [go_sem, ↓reduceIte, reduceCtorEq, Nat.reduceLT, Nat.reducePow, Nat.reduceLeDiff, Nat.reduceAdd, Nat.reduceMul, Nat.reduceSub, Nat.reduceEqDiff, Nat.reduceBEq, Int.reduceToNat, Int.reduceBEq, Int.reduceBNe, ty24, ty26, ty36, ty22, ty3, ty4, ty9, ty41, un4, ty48, hd, cb, eqty24, eqty26]; (repeat (first | refine ⟨by omega, ?_⟩ | refine ⟨True.intro, ?_⟩)))))
          (repeat (first | refine awp_seq ?_ | refine awp_yes rfl ?_ | refine awp_no rfl ?_ | refine awp_block ?_ | (refine awp_region fun K hK => ?_) | (refine awp_draw (by kernel_rfl) (by kernel_rfl) fun K hK => ?_) | (refine awp_skip ?_; (first | show AWP _ _ _ _ _ | show loopQ _ _ _ _ _ _)) | (refine awp_exit ?_; (first | show AWP _ _ _ _ _ | show loopQ _ _ _ _ _ _)) | ((first | refine walkS_end (hK _ ?_) | refine walkD_end (hK _ _ (okTrace_spec (by kernel_rfl)) ?_)); clear hK K; (first | show AWP _ _ _ _ _ | show loopQ _ _ _ _ _ _)) | ((first | refine walkS_call3 rfl rfl rfl ?_ | refine walkD_call3 rfl rfl rfl ?_); simp (maxSteps := 2000000) (disch := omega) only [go_sem, ↓reduceIte, reduceCtorEq, Nat.reduceLT, Nat.reducePow, Nat.reduceLeDiff, Nat.reduceAdd, Nat.reduceMul, Nat.reduceSub, Nat.reduceEqDiff, Nat.reduceBEq, Int.reduceToNat, Int.reduceBEq, Int.reduceBNe, ty24, ty26, ty36, ty22, ty3, ty4, ty9, ty41, un4, ty48, hd, cb, eqty24, eqty26]; (first | refine ⟨_, awake3_c, ?_⟩ | refine ⟨_, acalls_sl (by simp) hcat lt1, ?_⟩ | refine ⟨_, sr1, ?_⟩ | refine ⟨_, mtt, ?_⟩ | refine ⟨_, lt2, ?_⟩ | refine ⟨_, sr2, ?_⟩ | refine ⟨_, lst, ?_⟩ | refine ⟨_, sr3, ?_⟩)) | ((first | refine walkS_run1 [106] rfl ?_ | refine walkD_run1 [106] rfl ?_); simp (maxSteps := 2000000) (disch := omega) only [go_sem, ↓reduceIte, reduceCtorEq, Nat.reduceLT, Nat.reducePow, Nat.reduceLeDiff, Nat.reduceAdd, Nat.reduceMul, Nat.reduceSub, Nat.reduceEqDiff, Nat.reduceBEq, Int.reduceToNat, Int.reduceBEq, Int.reduceBNe, ty24, ty26, ty36, ty22, ty3, ty4, ty9, ty41, un4, ty48, hd, cb, eqty24, eqty26]; (repeat (first | refine ⟨by omega, ?_⟩ | refine ⟨True.intro, ?_⟩)))))
          refine awp_ret ⟨_, ?_, rfl⟩; rw [Try.results13]; simp (disch := omega) only [ResVars, ResVar, ptrLoc, go_sem, ↓reduceIte, reduceCtorEq, Nat.reduceLT, Nat.reducePow, Nat.reduceLeDiff, Nat.reduceAdd, Nat.reduceMul, Nat.reduceSub, Nat.reduceEqDiff, Nat.reduceBEq, Int.reduceToNat, Int.reduceBEq, Int.reduceBNe, ty24, ty26, ty36, ty22, ty3, ty4, ty9, ty41, un4, ty48, hd, cb, eqty24, eqty26]
        | cons x R =>
          have hq : (((x :: R).length : Int) == 0) = false := by rw [beq_eq_false_iff_ne]; simp only [List.length_cons]; omega
          have hq2 : (x :: R).isEmpty = false := rfl
          rw [hq2] at wi
          generalize x :: R = R at ls wi lst sr3 hll hq
          refine acalls_of_awp Try.func13 rfl (by decide +kernel) (by rw [Try.ntmps13]; simp) ?_; rw [Try.ntmps13]; simp only [frOf]
          (repeat ((fail_if_success (show AWP _ _ (.region 8 _ _) _ _)); first | refine awp_seq ?_ | refine awp_yes rfl ?_ | refine awp_no rfl ?_ | refine awp_block ?_ | (refine awp_region fun K hK => ?_) | (refine awp_draw (by kernel_rfl) (by kernel_rfl) fun K hK => ?_) | (refine awp_skip ?_; (first | show AWP _ _ _ _ _ | show loopQ _ _ _ _ _ _)) | (refine awp_exit ?_; (first | show AWP _ _ _ _ _ | show loopQ _ _ _ _ _ _)) | ((first | refine walkS_end (hK _ ?_) | refine walkD_end (hK _ _ (okTrace_spec (by kernel_rfl)) ?_)); clear hK K; (first | show AWP _ _ _ _ _ | show loopQ _ _ _ _ _ _)) | ((first | refine walkS_call3 rfl rfl rfl ?_ | refine walkD_call3 rfl rfl rfl ?_); simp (maxSteps := 2000000) (disch := omega) only [go_sem, ↓reduceIte, reduceCtorEq, Nat.reduceLT, Nat.reducePow, Nat.reduceLeDiff, Nat.reduceAdd, Nat.reduceMul, Nat.reduceSub, Nat.reduceEqDiff, Nat.reduceBEq, Int.reduceToNat, Int.reduceBEq, Int.reduceBNe, ty24, ty26, ty36, ty22, ty3, ty4, ty9, ty41, un4, ty48, hd, cb, eqty24, eqty26, hq]; (first | refine ⟨_, s1, ?_⟩ | refine ⟨_, s2, ?_⟩ | refine ⟨_, t1, ?_⟩ | refine ⟨_, t2, ?_⟩ | refine ⟨_, jn, ?_⟩ | refine ⟨_, mt, ?_⟩ | refine ⟨_, ls, ?_⟩ | refine ⟨_, wi, ?_⟩)) | ((first | refine walkS_run1 [106] rfl ?_ | refine walkD_run1 [106] rfl ?_); simp (maxSteps := 2000000) (disch := omega) only [go_sem, ↓reduceIte, reduceCtorEq, Nat.reduceLT, Nat.reducePow, Nat.reduceLeDiff, Nat.reduceAdd, Nat.reduceMul, Nat.reduceSub, Nat.reduceEqDiff, Nat.reduceBEq, Int.reduceToNat, Int.reduceBEq, Int.reduceBNe, ty24, ty26, ty36, ty22, ty3, ty4, ty9, ty41, un4, ty48, hd, cb, eqty24, eqty26, hq]; (repeat (first | refine ⟨by omega, ?_⟩ | refine ⟨True.intro, ?_⟩)))))
          (repeat (first | refine awp_seq ?_ | refine awp_yes rfl ?_ | refine awp_no rfl ?_ | refine awp_block ?_ | (refine awp_region fun K hK => ?_) | (refine awp_draw (by kernel_rfl) (by kernel_rfl) fun K hK => ?_) | (refine awp_skip ?_; (first | show AWP _ _ _ _ _ | show loopQ _ _ _ _ _ _)) | (refine awp_exit ?_; (first | show AWP _ _ _ _ _ | show loopQ _ _ _ _ _ _)) | ((first | refine walkS_end (hK _ ?_) | refine walkD_end (hK _ _ (okTrace_spec (by kernel_rfl)) ?_)); clear hK K; (first | show AWP _ _ _ _ _ | show loopQ _ _ _ _ _ _)) | ((first | refine walkS_call3 rfl rfl rfl ?_ | refine walkD_call3 rfl rfl rfl ?_); simp (maxSteps := 2000000) (disch := omega) only [go_sem, ↓reduceIte, reduceCtorEq, Nat.reduceLT, Nat.reducePow, Nat.reduceLeDiff, Nat.reduceAdd, Nat.reduceMul, Nat.reduceSub, Nat.reduceEqDiff, Nat.reduceBEq, Int.reduceToNat, Int.reduceBEq, Int.reduceBNe, ty24, ty26, ty36, ty22, ty3, ty4, ty9, ty41, un4, ty48, hd, cb, eqty24, eqty26, hq]; (first | refine ⟨_, awake3_c, ?_⟩ | refine ⟨_, acalls_sl (by simp) hcat lt1, ?_⟩ | refine ⟨_, sr1, ?_⟩ | refine ⟨_, mtt, ?_⟩ | refine ⟨_, lt2, ?_⟩ | refine ⟨_, sr2, ?_⟩ | refine ⟨_, lst, ?_⟩ | refine ⟨_, sr3, ?_⟩)) | ((first | refine walkS_run1 [106] rfl ?_ | refine walkD_run1 [106] rfl ?_); simp (maxSteps := 2000000) (disch := omega) only [go_sem, ↓reduceIte, reduceCtorEq, Nat.reduceLT, Nat.reducePow, Nat.reduceLeDiff, Nat.reduceAdd, Nat.reduceMul, Nat.reduceSub, Nat.reduceEqDiff, Nat.reduceBEq, Int.reduceToNat, Int.reduceBEq, Int.reduceBNe, ty24, ty26, ty36, ty22, ty3, ty4, ty9, ty41, un4, ty48, hd, cb, eqty24, eqty26, hq]; (repeat (first | refine ⟨by omega, ?_⟩ | refine ⟨True.intro, ?_⟩)))))
          refine awp_ret ⟨_, ?_, rfl⟩; rw [Try.results13]; simp (disch := omega) only [ResVars, ResVar, ptrLoc, go_sem, ↓reduceIte, reduceCtorEq, Nat.reduceLT, Nat.reducePow, Nat.reduceLeDiff, Nat.reduceAdd, Nat.reduceMul, Nat.reduceSub, Nat.reduceEqDiff, Nat.reduceBEq, Int.reduceToNat, Int.reduceBEq, Int.reduceBNe, ty24, ty26, ty36, ty22, ty3, ty4, ty9, ty41, un4, ty48, hd, cb, eqty24, eqty26, hq]
      · rw [h0, h1] at ls wi lst
        refine acalls_of_awp Try.func13 rfl (by decide +kernel) (by rw [Try.ntmps13]; simp) ?_; rw [Try.ntmps13]; simp only [frOf]
        (repeat ((fail_if_success (show AWP _ _ (.region 8 _ _) _ _)); first | refine awp_seq ?_ | refine awp_yes rfl ?_ | refine awp_no rfl ?_ | refine awp_block ?_ | (refine awp_region fun K hK => ?_) | (refine awp_draw (by kernel_rfl) (by kernel_rfl) fun K hK => ?_) | (refine awp_skip ?_; (first | show AWP _ _ _ _ _ | show loopQ _ _ _ _ _ _)) | (refine awp_exit ?_; (first | show AWP _ _ _ _ _ | show loopQ _ _ _ _ _ _)) | ((first | refine walkS_end (hK _ ?_) | refine walkD_end (hK _ _ (okTrace_spec (by kernel_rfl)) ?_)); clear hK K; (first | show AWP _ _ _ _ _ | show loopQ _ _ _ _ _ _)) | ((first | refine walkS_call3 rfl rfl rfl ?_ | refine walkD_call3 rfl rfl rfl ?_); simp (maxSteps := 2000000) (disch := omega) only [go_sem, ↓reduceIte, reduceCtorEq, Nat.reduceLT, Nat.reducePow, Nat.reduceLeDiff, Nat.reduceAdd, Nat.reduceMul, Nat.reduceSub, Nat.reduceEqDiff, Nat.reduceBEq, Int.reduceToNat, Int.reduceBEq, Int.reduceBNe, ty24, ty26, ty36, ty22, ty3, ty4, ty9, ty41, un4, ty48, hd, cb, eqty24, eqty26]; (first | refine ⟨_, s1, ?_⟩ | refine ⟨_, s2, ?_⟩ | refine ⟨_, t1, ?_⟩ | refine ⟨_, t2, ?_⟩ | refine ⟨_, jn, ?_⟩ | refine ⟨_, mt, ?_⟩ | refine ⟨_, ls, ?_⟩ | refine ⟨_, wi, ?_⟩)) | ((first | refine walkS_run1 [106] rfl ?_ | refine walkD_run1 [106] rfl ?_); simp (maxSteps := 2000000) (disch := omega) only [go_sem, ↓reduceIte, reduceCtorEq, Nat.reduceLT, Nat.reducePow, Nat.reduceLeDiff, Nat.reduceAdd, Nat.reduceMul, Nat.reduceSub, Nat.reduceEqDiff, Nat.reduceBEq, Int.reduceToNat, Int.reduceBEq, Int.reduceBNe, ty24, ty26, ty36, ty22, ty3, ty4, ty9, ty41, un4, ty48, hd, cb, eqty24, eqty26]; (repeat (first | refine ⟨by omega, ?_⟩ | refine ⟨True.intro, ?_⟩)))))
        (repeat (first | refine awp_seq ?_ | refine awp_yes rfl ?_ | refine awp_no rfl ?_ | refine awp_block ?_ | (refine awp_region fun K hK => ?_) | (refine awp_draw (by kernel_rfl) (by kernel_rfl) fun K hK => ?_) | (refine awp_skip ?_; (first | show AWP _ _ _ _ _ | show loopQ _ _ _ _ _ _)) | (refine awp_exit ?_; (first | show AWP _ _ _ _ _ | show loopQ _ _ _ _ _ _)) | ((first | refine walkS_end (hK _ ?_) | refine walkD_end (hK _ _ (okTrace_spec (by kernel_rfl)) ?_)); clear hK K; (first | show AWP _ _ _ _ _ | show loopQ _ _ _ _ _ _)) | ((first | refine walkS_call3 rfl rfl rfl ?_ | refine walkD_call3 rfl rfl rfl ?_); simp (maxSteps := 2000000) (disch := omega) only [go_sem, ↓reduceIte, reduceCtorEq, Nat.reduceLT, Nat.reducePow, Nat.reduceLeDiff, Nat.reduceAdd, Nat.reduceMul, Nat.reduceSub, Nat.reduceEqDiff, Nat.reduceBEq, Int.reduceToNat, Int.reduceBEq, Int.reduceBNe, ty24, ty26, ty36, ty22, ty3, ty4, ty9, ty41, un4, ty48, hd, cb, eqty24, eqty26]; (first | refine ⟨_, awake3_c, ?_⟩ | refine ⟨_, acalls_sl (by simp) hcat lt1, ?_⟩ | refine ⟨_, sr1, ?_⟩ | refine ⟨_, mtt, ?_⟩ | refine ⟨_, lt2, ?_⟩ | refine ⟨_, sr2, ?_⟩ | refine ⟨_, lst, ?_⟩)) | ((first | refine walkS_run1 [106] rfl ?_ | refine walkD_run1 [106] rfl ?_); simp (maxSteps := 2000000) (disch := omega) only [go_sem, ↓reduceIte, reduceCtorEq, Nat.reduceLT, Nat.reducePow, Nat.reduceLeDiff, Nat.reduceAdd, Nat.reduceMul, Nat.reduceSub, Nat.reduceEqDiff, Nat.reduceBEq, Int.reduceToNat, Int.reduceBEq, Int.reduceBNe, ty24, ty26, ty36, ty22, ty3, ty4, ty9, ty41, un4, ty48, hd, cb, eqty24, eqty26]; (repeat (first | refine ⟨by omega, ?_⟩ | refine ⟨True.intro, ?_⟩)))))
        refine awp_ret ⟨_, ?_, rfl⟩; rw [Try.results13]; simp (disch := omega) only [ResVars, ResVar, ptrLoc, go_sem, ↓reduceIte, reduceCtorEq, Nat.reduceLT, Nat.reducePow, Nat.reduceLeDiff, Nat.reduceAdd, Nat.reduceMul, Nat.reduceSub, Nat.reduceEqDiff, Nat.reduceBEq, Int.reduceToNat, Int.reduceBEq, Int.reduceBNe, ty24, ty26, ty36, ty22, ty3, ty4, ty9, ty41, un4, ty48, hd, cb, eqty24, eqty26]
theorem lessPR_none {a j : List Cube} (sa : soundP a = true) (hj : ∀ h, hasP a h = true → hasP j h = true) (e : (lessPR a j).2 = 0) : (lessPR a j).1 = [] := by
  unfold lessPR at e ⊢
  rw [sa, Bool.true_and] at e ⊢
  split
  · rename_i sj
    rw [if_pos sj] at e
    have key := fun h => less_has h j a (soundP_all sj) (soundP_all sa) e
    refine has_nil (key 0).2 fun h => ?_
    rw [(key h).1]
    cases hh : hasP a h
    · rfl
    · rw [hj h hh]; rfl
  · rename_i sj
    rw [if_neg sj] at e
set_option maxRecDepth 100000 in
set_option maxHeartbeats 4000000 in
theorem PileOnce_c (a b : List Cube) (ha : a.length ≤ 1099511627776) (hb : b.length ≤ 1099511627776) : ACalls Try.prog 12 [.d (.sl 4 a.length (rowC a)), .d (.sl 4 b.length (rowC b))] (· = [.d (.v (.bool true))]) := by
  have s1 := small_c a ha
  have s2 := small_c b hb
  have l1 : (a.take 12).length ≤ 12 := by simp; omega
  have l2 : (b.take 12).length ≤ 12 := by simp; omega
  generalize a.take 12 = qa at s1 l1
  generalize b.take 12 = qb at s2 l2
  have o1 := SoundP_c qa (by omega)
  have o2 := SoundP_c qb (by omega)
  cases p : soundP qa
  · rw [p] at o1
    refine acalls_of_awp Try.func12 rfl (by decide +kernel) (by rw [Try.ntmps12]; simp) ?_; rw [Try.ntmps12]; simp only [frOf]
    (repeat (first | refine awp_seq ?_ | refine awp_yes rfl ?_ | refine awp_no rfl ?_ | refine awp_block ?_ | (refine awp_region fun K hK => ?_) | (refine awp_draw (by kernel_rfl) (by kernel_rfl) fun K hK => ?_) | (refine awp_skip ?_; (first | show AWP _ _ _ _ _ | show loopQ _ _ _ _ _ _)) | (refine awp_exit ?_; (first | show AWP _ _ _ _ _ | show loopQ _ _ _ _ _ _)) | ((first | refine walkS_end (hK _ ?_) | refine walkD_end (hK _ _ (okTrace_spec (by kernel_rfl)) ?_)); clear hK K; (first | show AWP _ _ _ _ _ | show loopQ _ _ _ _ _ _)) | ((first | refine walkS_call3 rfl rfl rfl ?_ | refine walkD_call3 rfl rfl rfl ?_); simp (maxSteps := 2000000) (disch := omega) only [go_sem, ↓reduceIte, reduceCtorEq, Nat.reduceLT, Nat.reducePow, Nat.reduceLeDiff, Nat.reduceAdd, Nat.reduceMul, Nat.reduceSub, Nat.reduceEqDiff, Nat.reduceBEq, Int.reduceToNat, Int.reduceBEq, Int.reduceBNe, ty24, ty26, ty36, ty22, ty3, ty4, ty9, ty41, un4, ty48, hd, cb, eqty24, eqty26]; (first | refine ⟨_, awake3_c, ?_⟩ | refine ⟨_, s1, ?_⟩ | refine ⟨_, s2, ?_⟩ | refine ⟨_, o1, ?_⟩)) | ((first | refine walkS_run1 [] rfl ?_ | refine walkD_run1 [] rfl ?_); simp (maxSteps := 2000000) (disch := omega) only [go_sem, ↓reduceIte, reduceCtorEq, Nat.reduceLT, Nat.reducePow, Nat.reduceLeDiff, Nat.reduceAdd, Nat.reduceMul, Nat.reduceSub, Nat.reduceEqDiff, Nat.reduceBEq, Int.reduceToNat, Int.reduceBEq, Int.reduceBNe, ty24, ty26, ty36, ty22, ty3, ty4, ty9, ty41, un4, ty48, hd, cb, eqty24, eqty26]; (repeat (first | refine ⟨by omega, ?_⟩ | refine ⟨True.intro, ?_⟩)))))
    refine awp_ret ⟨_, ?_, rfl⟩; rw [Try.results12]; simp (disch := omega) only [ResVars, ResVar, ptrLoc, go_sem, ↓reduceIte, reduceCtorEq, Nat.reduceLT, Nat.reducePow, Nat.reduceLeDiff, Nat.reduceAdd, Nat.reduceMul, Nat.reduceSub, Nat.reduceEqDiff, Nat.reduceBEq, Int.reduceToNat, Int.reduceBEq, Int.reduceBNe, ty24, ty26, ty36, ty22, ty3, ty4, ty9, ty41, un4, ty48, hd, cb, eqty24, eqty26]
  · cases q : soundP qb
    · rw [p] at o1
      rw [q] at o2
      refine acalls_of_awp Try.func12 rfl (by decide +kernel) (by rw [Try.ntmps12]; simp) ?_; rw [Try.ntmps12]; simp only [frOf]
      (repeat (first | refine awp_seq ?_ | refine awp_yes rfl ?_ | refine awp_no rfl ?_ | refine awp_block ?_ | (refine awp_region fun K hK => ?_) | (refine awp_draw (by kernel_rfl) (by kernel_rfl) fun K hK => ?_) | (refine awp_skip ?_; (first | show AWP _ _ _ _ _ | show loopQ _ _ _ _ _ _)) | (refine awp_exit ?_; (first | show AWP _ _ _ _ _ | show loopQ _ _ _ _ _ _)) | ((first | refine walkS_end (hK _ ?_) | refine walkD_end (hK _ _ (okTrace_spec (by kernel_rfl)) ?_)); clear hK K; (first | show AWP _ _ _ _ _ | show loopQ _ _ _ _ _ _)) | ((first | refine walkS_call3 rfl rfl rfl ?_ | refine walkD_call3 rfl rfl rfl ?_); simp (maxSteps := 2000000) (disch := omega) only [go_sem, ↓reduceIte, reduceCtorEq, Nat.reduceLT, Nat.reducePow, Nat.reduceLeDiff, Nat.reduceAdd, Nat.reduceMul, Nat.reduceSub, Nat.reduceEqDiff, Nat.reduceBEq, Int.reduceToNat, Int.reduceBEq, Int.reduceBNe, ty24, ty26, ty36, ty22, ty3, ty4, ty9, ty41, un4, ty48, hd, cb, eqty24, eqty26]; (first | refine ⟨_, awake3_c, ?_⟩ | refine ⟨_, s1, ?_⟩ | refine ⟨_, s2, ?_⟩ | refine ⟨_, o1, ?_⟩ | refine ⟨_, o2, ?_⟩)) | ((first | refine walkS_run1 [] rfl ?_ | refine walkD_run1 [] rfl ?_); simp (maxSteps := 2000000) (disch := omega) only [go_sem, ↓reduceIte, reduceCtorEq, Nat.reduceLT, Nat.reducePow, Nat.reduceLeDiff, Nat.reduceAdd, Nat.reduceMul, Nat.reduceSub, Nat.reduceEqDiff, Nat.reduceBEq, Int.reduceToNat, Int.reduceBEq, Int.reduceBNe, ty24, ty26, ty36, ty22, ty3, ty4, ty9, ty41, un4, ty48, hd, cb, eqty24, eqty26]; (repeat (first | refine ⟨by omega, ?_⟩ | refine ⟨True.intro, ?_⟩)))))
      refine awp_ret ⟨_, ?_, rfl⟩; rw [Try.results12]; simp (disch := omega) only [ResVars, ResVar, ptrLoc, go_sem, ↓reduceIte, reduceCtorEq, Nat.reduceLT, Nat.reducePow, Nat.reduceLeDiff, Nat.reduceAdd, Nat.reduceMul, Nat.reduceSub, Nat.reduceEqDiff, Nat.reduceBEq, Int.reduceToNat, Int.reduceBEq, Int.reduceBNe, ty24, ty26, ty36, ty22, ty3, ty4, ty9, ty41, un4, ty48, hd, cb, eqty24, eqty26]
    · rw [p] at o1
      rw [q] at o2
      have sa := soundP_all p
      have sb := soundP_all q
      have n1 := Lean_c qa (by omega)
      have le1 := leanP_len qa
      have n2 := Lean_c (leanP qa) (by omega)
      rw [leanP_twice] at n2
      have sl : ∀ k ∈ leanP qa, k.sound = true := fun k hk => (leanP_mem hk).2
      have t1 := Texts_c (leanP qa) (by omega)
      have tv : textsV (leanP qa) = leanP qa := by unfold textsV; rw [if_pos (List.all_eq_true.2 sl)]
      rw [tv] at t1
      have sr := SameR_c (leanP qa) sl (by omega)
      generalize leanP qa = L at n1 n2 t1 sr
      generalize soundP L = z at t1
      have jn := JoinP_c qa qb (by omega) (by omega)
      unfold joinV joinE at jn
      rw [p, q] at jn
      simp only [Bool.and_true, if_true] at jn
      have e1 := leanE_of (qa ++ qb) (by simp; omega)
      rw [e1, leanE_val _ e1] at jn
      have le2 := leanP_len (qa ++ qb)
      rw [List.length_append] at le2
      have hj : ∀ h, hasP qa h = true → hasP (leanP (qa ++ qb)) h = true := by
        intro h hh
        rw [lean_has, hasP_append, hh]; rfl
      generalize leanP (qa ++ qb) = J at jn hj le2
      have ls := LessP_c qa qa (by omega) (by omega)
      have wi := WithinP_c qa J (by omega) (by omega)
      have k1 := @lessPR_none qa qa p (fun h hh => hh)
      have k2 := @lessPR_none qa J p hj
      generalize lessPR qa qa = R1 at ls k1
      generalize lessPR qa J = R2 at wi k2
      obtain ⟨r1, x1⟩ := R1
      obtain ⟨r2, x2⟩ := R2
      simp only [] at ls wi k1 k2
      by_cases h1 : x1 = 0
      · have kk1 : r1 = [] := k1 h1
        clear k1; subst h1; subst kk1
        by_cases h2 : x2 = 0
        · have kk2 : r2 = [] := k2 h2
          clear k2; subst h2; subst kk2
          refine acalls_of_awp Try.func12 rfl (by decide +kernel) (by rw [Try.ntmps12]; simp) ?_; rw [Try.ntmps12]; simp only [frOf]
          (repeat (first | refine awp_seq ?_ | refine awp_yes rfl ?_ | refine awp_no rfl ?_ | refine awp_block ?_ | (refine awp_region fun K hK => ?_) | (refine awp_draw (by kernel_rfl) (by kernel_rfl) fun K hK => ?_) | (refine awp_skip ?_; (first | show AWP _ _ _ _ _ | show loopQ _ _ _ _ _ _)) | (refine awp_exit ?_; (first | show AWP _ _ _ _ _ | show loopQ _ _ _ _ _ _)) | ((first | refine walkS_end (hK _ ?_) | refine walkD_end (hK _ _ (okTrace_spec (by kernel_rfl)) ?_)); clear hK K; (first | show AWP _ _ _ _ _ | show loopQ _ _ _ _ _ _)) | ((first | refine walkS_call3 rfl rfl rfl ?_ | refine walkD_call3 rfl rfl rfl ?_); simp (maxSteps := 2000000) (disch := omega) only [go_sem, ↓reduceIte, reduceCtorEq, Nat.reduceLT, Nat.reducePow, Nat.reduceLeDiff, Nat.reduceAdd, Nat.reduceMul, Nat.reduceSub, Nat.reduceEqDiff, Nat.reduceBEq, Int.reduceToNat, Int.reduceBEq, Int.reduceBNe, ty24, ty26, ty36, ty22, ty3, ty4, ty9, ty41, un4, ty48, hd, cb, eqty24, eqty26]; (first | refine ⟨_, awake3_c, ?_⟩ | refine ⟨_, s1, ?_⟩ | refine ⟨_, s2, ?_⟩ | refine ⟨_, o1, ?_⟩ | refine ⟨_, o2, ?_⟩ | refine ⟨_, n1, ?_⟩ | refine ⟨_, n2, ?_⟩ | refine ⟨_, t1, ?_⟩ | refine ⟨_, ls, ?_⟩ | refine ⟨_, jn, ?_⟩ | refine ⟨_, wi, ?_⟩ | refine ⟨_, sr, ?_⟩)) | ((first | refine walkS_run1 [] rfl ?_ | refine walkD_run1 [] rfl ?_); simp (maxSteps := 2000000) (disch := omega) only [go_sem, ↓reduceIte, reduceCtorEq, Nat.reduceLT, Nat.reducePow, Nat.reduceLeDiff, Nat.reduceAdd, Nat.reduceMul, Nat.reduceSub, Nat.reduceEqDiff, Nat.reduceBEq, Int.reduceToNat, Int.reduceBEq, Int.reduceBNe, ty24, ty26, ty36, ty22, ty3, ty4, ty9, ty41, un4, ty48, hd, cb, eqty24, eqty26]; (repeat (first | refine ⟨by omega, ?_⟩ | refine ⟨True.intro, ?_⟩)))))
          refine awp_ret ⟨_, ?_, rfl⟩; rw [Try.results12]; simp (disch := omega) only [ResVars, ResVar, ptrLoc, go_sem, ↓reduceIte, reduceCtorEq, Nat.reduceLT, Nat.reducePow, Nat.reduceLeDiff, Nat.reduceAdd, Nat.reduceMul, Nat.reduceSub, Nat.reduceEqDiff, Nat.reduceBEq, Int.reduceToNat, Int.reduceBEq, Int.reduceBNe, ty24, ty26, ty36, ty22, ty3, ty4, ty9, ty41, un4, ty48, hd, cb, eqty24, eqty26]
        · have q2 : (x2 != 0) = true := by simpa using h2
          have q3 : (x2 == 0) = false := by simpa using h2
          rw [q3] at wi
          refine acalls_of_awp Try.func12 rfl (by decide +kernel) (by rw [Try.ntmps12]; simp) ?_; rw [Try.ntmps12]; simp only [frOf]
          (repeat (first | refine awp_seq ?_ | refine awp_yes rfl ?_ | refine awp_no rfl ?_ | refine awp_block ?_ | (refine awp_region fun K hK => ?_) | (refine awp_draw (by kernel_rfl) (by kernel_rfl) fun K hK => ?_) | (refine awp_skip ?_; (first | show AWP _ _ _ _ _ | show loopQ _ _ _ _ _ _)) | (refine awp_exit ?_; (first | show AWP _ _ _ _ _ | show loopQ _ _ _ _ _ _)) | ((first | refine walkS_end (hK _ ?_) | refine walkD_end (hK _ _ (okTrace_spec (by kernel_rfl)) ?_)); clear hK K; (first | show AWP _ _ _ _ _ | show loopQ _ _ _ _ _ _)) | ((first | refine walkS_call3 rfl rfl rfl ?_ | refine walkD_call3 rfl rfl rfl ?_); simp (maxSteps := 2000000) (disch := omega) only [go_sem, ↓reduceIte, reduceCtorEq, Nat.reduceLT, Nat.reducePow, Nat.reduceLeDiff, Nat.reduceAdd, Nat.reduceMul, Nat.reduceSub, Nat.reduceEqDiff, Nat.reduceBEq, Int.reduceToNat, Int.reduceBEq, Int.reduceBNe, ty24, ty26, ty36, ty22, ty3, ty4, ty9, ty41, un4, ty48, hd, cb, eqty24, eqty26, q2]; (first | refine ⟨_, awake3_c, ?_⟩ | refine ⟨_, s1, ?_⟩ | refine ⟨_, s2, ?_⟩ | refine ⟨_, o1, ?_⟩ | refine ⟨_, o2, ?_⟩ | refine ⟨_, n1, ?_⟩ | refine ⟨_, n2, ?_⟩ | refine ⟨_, t1, ?_⟩ | refine ⟨_, ls, ?_⟩ | refine ⟨_, jn, ?_⟩ | refine ⟨_, wi, ?_⟩ | refine ⟨_, sr, ?_⟩)) | ((first | refine walkS_run1 [] rfl ?_ | refine walkD_run1 [] rfl ?_); simp (maxSteps := 2000000) (disch := omega) only [go_sem, ↓reduceIte, reduceCtorEq, Nat.reduceLT, Nat.reducePow, Nat.reduceLeDiff, Nat.reduceAdd, Nat.reduceMul, Nat.reduceSub, Nat.reduceEqDiff, Nat.reduceBEq, Int.reduceToNat, Int.reduceBEq, Int.reduceBNe, ty24, ty26, ty36, ty22, ty3, ty4, ty9, ty41, un4, ty48, hd, cb, eqty24, eqty26, q2]; (repeat (first | refine ⟨by omega, ?_⟩ | refine ⟨True.intro, ?_⟩)))))
          refine awp_ret ⟨_, ?_, rfl⟩; rw [Try.results12]; simp (disch := omega) only [ResVars, ResVar, ptrLoc, go_sem, ↓reduceIte, reduceCtorEq, Nat.reduceLT, Nat.reducePow, Nat.reduceLeDiff, Nat.reduceAdd, Nat.reduceMul, Nat.reduceSub, Nat.reduceEqDiff, Nat.reduceBEq, Int.reduceToNat, Int.reduceBEq, Int.reduceBNe, ty24, ty26, ty36, ty22, ty3, ty4, ty9, ty41, un4, ty48, hd, cb, eqty24, eqty26, q2]
      · have q1 : (x1 != 0) = true := by simpa using h1
        by_cases h2 : x2 = 0
        · have kk2 : r2 = [] := k2 h2
          clear k2; subst h2; subst kk2
          refine acalls_of_awp Try.func12 rfl (by decide +kernel) (by rw [Try.ntmps12]; simp) ?_; rw [Try.ntmps12]; simp only [frOf]
          (repeat (first | refine awp_seq ?_ | refine awp_yes rfl ?_ | refine awp_no rfl ?_ | refine awp_block ?_ | (refine awp_region fun K hK => ?_) | (refine awp_draw (by kernel_rfl) (by kernel_rfl) fun K hK => ?_) | (refine awp_skip ?_; (first | show AWP _ _ _ _ _ | show loopQ _ _ _ _ _ _)) | (refine awp_exit ?_; (first | show AWP _ _ _ _ _ | show loopQ _ _ _ _ _ _)) | ((first | refine walkS_end (hK _ ?_) | refine walkD_end (hK _ _ (okTrace_spec (by kernel_rfl)) ?_)); clear hK K; (first | show AWP _ _ _ _ _ | show loopQ _ _ _ _ _ _)) | ((first | refine walkS_call3 rfl rfl rfl ?_ | refine walkD_call3 rfl rfl rfl ?_); simp (maxSteps := 2000000) (disch := omega) only [go_sem, ↓reduceIte, reduceCtorEq, Nat.reduceLT, Nat.reducePow, Nat.reduceLeDiff, Nat.reduceAdd, Nat.reduceMul, Nat.reduceSub, Nat.reduceEqDiff, Nat.reduceBEq, Int.reduceToNat, Int.reduceBEq, Int.reduceBNe, ty24, ty26, ty36, ty22, ty3, ty4, ty9, ty41, un4, ty48, hd, cb, eqty24, eqty26, q1]; (first | refine ⟨_, awake3_c, ?_⟩ | refine ⟨_, s1, ?_⟩ | refine ⟨_, s2, ?_⟩ | refine ⟨_, o1, ?_⟩ | refine ⟨_, o2, ?_⟩ | refine ⟨_, n1, ?_⟩ | refine ⟨_, n2, ?_⟩ | refine ⟨_, t1, ?_⟩ | refine ⟨_, ls, ?_⟩ | refine ⟨_, jn, ?_⟩ | refine ⟨_, wi, ?_⟩ | refine ⟨_, sr, ?_⟩)) | ((first | refine walkS_run1 [] rfl ?_ | refine walkD_run1 [] rfl ?_); simp (maxSteps := 2000000) (disch := omega) only [go_sem, ↓reduceIte, reduceCtorEq, Nat.reduceLT, Nat.reducePow, Nat.reduceLeDiff, Nat.reduceAdd, Nat.reduceMul, Nat.reduceSub, Nat.reduceEqDiff, Nat.reduceBEq, Int.reduceToNat, Int.reduceBEq, Int.reduceBNe, ty24, ty26, ty36, ty22, ty3, ty4, ty9, ty41, un4, ty48, hd, cb, eqty24, eqty26, q1]; (repeat (first | refine ⟨by omega, ?_⟩ | refine ⟨True.intro, ?_⟩)))))
          refine awp_ret ⟨_, ?_, rfl⟩; rw [Try.results12]; simp (disch := omega) only [ResVars, ResVar, ptrLoc, go_sem, ↓reduceIte, reduceCtorEq, Nat.reduceLT, Nat.reducePow, Nat.reduceLeDiff, Nat.reduceAdd, Nat.reduceMul, Nat.reduceSub, Nat.reduceEqDiff, Nat.reduceBEq, Int.reduceToNat, Int.reduceBEq, Int.reduceBNe, ty24, ty26, ty36, ty22, ty3, ty4, ty9, ty41, un4, ty48, hd, cb, eqty24, eqty26, q1]
        · have q2 : (x2 != 0) = true := by simpa using h2
          have q3 : (x2 == 0) = false := by simpa using h2
          rw [q3] at wi
          refine acalls_of_awp Try.func12 rfl (by decide +kernel) (by rw [Try.ntmps12]; simp) ?_; rw [Try.ntmps12]; simp only [frOf]
          (repeat (first | refine awp_seq ?_ | refine awp_yes rfl ?_ | refine awp_no rfl ?_ | refine awp_block ?_ | (refine awp_region fun K hK => ?_) | (refine awp_draw (by kernel_rfl) (by kernel_rfl) fun K hK => ?_) | (refine awp_skip ?_; (first | show AWP _ _ _ _ _ | show loopQ _ _ _ _ _ _)) | (refine awp_exit ?_; (first | show AWP _ _ _ _ _ | show loopQ _ _ _ _ _ _)) | ((first | refine walkS_end (hK _ ?_) | refine walkD_end (hK _ _ (okTrace_spec (by kernel_rfl)) ?_)); clear hK K; (first | show AWP _ _ _ _ _ | show loopQ _ _ _ _ _ _)) | ((first | refine walkS_call3 rfl rfl rfl ?_ | refine walkD_call3 rfl rfl rfl ?_); simp (maxSteps := 2000000) (disch := omega) only [go_sem, ↓reduceIte, reduceCtorEq, Nat.reduceLT, Nat.reducePow, Nat.reduceLeDiff, Nat.reduceAdd, Nat.reduceMul, Nat.reduceSub, Nat.reduceEqDiff, Nat.reduceBEq, Int.reduceToNat, Int.reduceBEq, Int.reduceBNe, ty24, ty26, ty36, ty22, ty3, ty4, ty9, ty41, un4, ty48, hd, cb, eqty24, eqty26, q1, q2]; (first | refine ⟨_, awake3_c, ?_⟩ | refine ⟨_, s1, ?_⟩ | refine ⟨_, s2, ?_⟩ | refine ⟨_, o1, ?_⟩ | refine ⟨_, o2, ?_⟩ | refine ⟨_, n1, ?_⟩ | refine ⟨_, n2, ?_⟩ | refine ⟨_, t1, ?_⟩ | refine ⟨_, ls, ?_⟩ | refine ⟨_, jn, ?_⟩ | refine ⟨_, wi, ?_⟩ | refine ⟨_, sr, ?_⟩)) | ((first | refine walkS_run1 [] rfl ?_ | refine walkD_run1 [] rfl ?_); simp (maxSteps := 2000000) (disch := omega) only [go_sem, ↓reduceIte, reduceCtorEq, Nat.reduceLT, Nat.reducePow, Nat.reduceLeDiff, Nat.reduceAdd, Nat.reduceMul, Nat.reduceSub, Nat.reduceEqDiff, Nat.reduceBEq, Int.reduceToNat, Int.reduceBEq, Int.reduceBNe, ty24, ty26, ty36, ty22, ty3, ty4, ty9, ty41, un4, ty48, hd, cb, eqty24, eqty26, q1, q2]; (repeat (first | refine ⟨by omega, ?_⟩ | refine ⟨True.intro, ?_⟩)))))
          refine awp_ret ⟨_, ?_, rfl⟩; rw [Try.results12]; simp (disch := omega) only [ResVars, ResVar, ptrLoc, go_sem, ↓reduceIte, reduceCtorEq, Nat.reduceLT, Nat.reducePow, Nat.reduceLeDiff, Nat.reduceAdd, Nat.reduceMul, Nat.reduceSub, Nat.reduceEqDiff, Nat.reduceBEq, Int.reduceToNat, Int.reduceBEq, Int.reduceBNe, ty24, ty26, ty36, ty22, ty3, ty4, ty9, ty41, un4, ty48, hd, cb, eqty24, eqty26, q1, q2]
end Go.Proofs.Ytfcfhlfehomhpaa
