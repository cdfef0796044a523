/- PileParts: the law's call returns true. Conditions: none, but that no row is greater than memory bears. -/
import Derived.Test.YtfcfhlfehomhpaaAwake3
import Derived.Test.YtfcfhlfehomhpaaPileSet
set_option linter.unusedSimpArgs false
set_option linter.unusedVariables false
namespace Go.Proofs.Ytfcfhlfehomhpaa
open Go.Proofs.Ytfcfhlfehomhpaa.AL
def meetPV (a b : List Cube) : List Cube := if soundP a && soundP b then leanV (meetsP a b) else []
def meetPE (a b : List Cube) : Int := if soundP a && soundP b then leanE (meetsP a b) else 2
theorem lessP_len : ∀ (b out : List Cube), out.length ≤ 200 → (lessP b out).1.length ≤ 200
  | [], out, h => h
  | y :: r, out, h => by
    unfold lessP
    split
    · exact lessP_len r _ (leanV_len _)
    · simp
theorem lessPR_len (a b : List Cube) : (lessPR a b).1.length ≤ 200 := by
  unfold lessPR
  split
  · rename_i h
    rw [Bool.and_eq_true] at h
    exact lessP_len b a (soundP_len h.1)
  · simp
theorem joinV_len (a b : List Cube) : (joinV a b).length ≤ 200 := by
  unfold joinV
  split
  · exact leanV_len _
  · simp
theorem meetPV_len (a b : List Cube) : (meetPV a b).length ≤ 200 := by
  unfold meetPV
  split
  · exact leanV_len _
  · simp
theorem join_has {a b : List Cube} (h : BitVec 128) (e : joinE a b = 0) : hasP (joinV a b) h = (hasP a h || hasP b h) := by
  unfold joinE at e
  unfold joinV
  split at e
  · rename_i s
    rw [if_pos s, leanE_val _ e, lean_has, hasP_append]
  · cases e
theorem meetP_has {a b : List Cube} (h : BitVec 128) (e : meetPE a b = 0) : hasP (meetPV a b) h = (hasP a h && hasP b h) := by
  unfold meetPE at e
  unfold meetPV
  split at e
  · rename_i s
    rw [if_pos s, leanE_val _ e, lean_has, meets_has]
  · cases e
theorem lessPR_has {a b : List Cube} (h : BitVec 128) (e : (lessPR a b).2 = 0) : hasP (lessPR a b).1 h = (hasP a h && !hasP b h) := by
  unfold lessPR at e ⊢
  split
  · rename_i s
    rw [if_pos s] at e
    rw [Bool.and_eq_true] at s
    exact (less_has h b a (soundP_all s.2) (soundP_all s.1) e).1
  · rename_i s
    rw [if_neg s] at e
    cases e
theorem ne_zero {e : Int} {x : Bool} (h : (e != 0) = x) : x = false → e = 0 := by
  intro hx; subst hx; simpa using h
set_option maxRecDepth 100000 in
set_option maxHeartbeats 2000000 in
theorem PileParts_c (a b : List Cube) (h : BitVec 128) (ha : a.length ≤ 1099511627776) (hb : b.length ≤ 1099511627776) : ACalls Try.prog 14 [.d (.sl 4 a.length (rowC a)), .d (.sl 4 b.length (rowC b)), .agg (hd h)] (· = [.d (.v (.bool true))]) := by
  have jn := JoinP_c a b ha hb
  have mt := MeetP_c a b ha hb
  have ls := LessP_c a b ha hb
  have pa := HasP_c a h (by omega)
  have pb := HasP_c b h (by omega)
  have nj := joinV_len a b
  have nm := meetPV_len a b
  have nl := lessPR_len a b
  have pj := HasP_c (joinV a b) h (by omega)
  have pm := HasP_c (meetPV a b) h (by omega)
  have pl := HasP_c (lessPR a b).1 h (by omega)
  have fj := @join_has a b h
  have fm := @meetP_has a b h
  have fl := @lessPR_has a b h
  rw [show (if soundP a && soundP b then leanV (meetsP a b) else []) = meetPV a b from rfl, show (if soundP a && soundP b then leanE (meetsP a b) else 2) = meetPE a b from rfl] at mt
  generalize (lessPR a b).2 = eL at ls fl
  generalize (lessPR a b).1 = L at ls pl fl nl
  generalize joinE a b = eJ at jn fj
  generalize joinV a b = J at jn pj fj nj
  generalize meetPE a b = eM at mt fm
  generalize meetPV a b = M at mt pm fm nm
  generalize hqj : (eJ != 0) = qj
  generalize hqm : (eM != 0) = qm
  generalize hql : (eL != 0) = ql
  have fj := fun q => fj (ne_zero hqj q)
  have fm := fun q => fm (ne_zero hqm q)
  have fl := fun q => fl (ne_zero hql q)
  generalize hasP J h = bJ at pj fj
  generalize hasP M h = bM at pm fm
  generalize hasP L h = bL at pl fl
  generalize hasP a h = bA at pa fj fm fl
  generalize hasP b h = bB at pb fj fm fl
  by_cases h1 : a.length > 30
  · refine acalls_of_awp Try.func14 rfl (by decide +kernel) (by rw [Try.ntmps14]; simp) ?_; rw [Try.ntmps14]; simp only [frOf]
    (repeat (first | refine awp_seq ?_ | refine awp_yes rfl ?_ | refine awp_no rfl ?_ | refine awp_block ?_ | (refine awp_region fun K hK => ?_) | (refine awp_draw (by kernel_rfl) (by kernel_rfl) fun K hK => ?_) | (refine awp_skip ?_; (first | show AWP _ _ _ _ _ | show loopQ _ _ _ _ _ _)) | (refine awp_exit ?_; (first | show AWP _ _ _ _ _ | show loopQ _ _ _ _ _ _)) | ((first | refine walkS_end (hK _ ?_) | refine walkD_end (hK _ _ (okTrace_spec (by kernel_rfl)) ?_)); clear hK K; (first | show AWP _ _ _ _ _ | show loopQ _ _ _ _ _ _)) | ((first | refine walkS_call3 rfl rfl rfl ?_ | refine walkD_call3 rfl rfl rfl ?_); simp (maxSteps := 2000000) (disch := omega) only [go_sem, ↓reduceIte, reduceCtorEq, Nat.reduceLT, Nat.reducePow, Nat.reduceLeDiff, Nat.reduceAdd, Nat.reduceMul, Nat.reduceSub, Nat.reduceEqDiff, Nat.reduceBEq, Int.reduceToNat, Int.reduceBEq, Int.reduceBNe, ty24, ty26, ty36, ty22, ty3, ty4, ty9, ty41, un4, ty48, hd, cb, eqty24, eqty26, hqj, hqm, hql]; (first | refine ⟨_, awake3_c, ?_⟩)) | ((first | refine walkS_run1 [] rfl ?_ | refine walkD_run1 [] rfl ?_); simp (maxSteps := 2000000) (disch := omega) only [go_sem, ↓reduceIte, reduceCtorEq, Nat.reduceLT, Nat.reducePow, Nat.reduceLeDiff, Nat.reduceAdd, Nat.reduceMul, Nat.reduceSub, Nat.reduceEqDiff, Nat.reduceBEq, Int.reduceToNat, Int.reduceBEq, Int.reduceBNe, ty24, ty26, ty36, ty22, ty3, ty4, ty9, ty41, un4, ty48, hd, cb, eqty24, eqty26, hqj, hqm, hql]; (repeat (first | refine ⟨by omega, ?_⟩ | refine ⟨True.intro, ?_⟩)))))
    refine awp_ret ⟨_, ?_, rfl⟩; rw [Try.results14]; simp (disch := omega) only [ResVars, ResVar, ptrLoc, go_sem, ↓reduceIte, reduceCtorEq, Nat.reduceLT, Nat.reducePow, Nat.reduceLeDiff, Nat.reduceAdd, Nat.reduceMul, Nat.reduceSub, Nat.reduceEqDiff, Nat.reduceBEq, Int.reduceToNat, Int.reduceBEq, Int.reduceBNe, ty24, ty26, ty36, ty22, ty3, ty4, ty9, ty41, un4, ty48, hd, cb, eqty24, eqty26, hqj, hqm, hql]
  · by_cases h2 : b.length > 30
    · refine acalls_of_awp Try.func14 rfl (by decide +kernel) (by rw [Try.ntmps14]; simp) ?_; rw [Try.ntmps14]; simp only [frOf]
      (repeat (first | refine awp_seq ?_ | refine awp_yes rfl ?_ | refine awp_no rfl ?_ | refine awp_block ?_ | (refine awp_region fun K hK => ?_) | (refine awp_draw (by kernel_rfl) (by kernel_rfl) fun K hK => ?_) | (refine awp_skip ?_; (first | show AWP _ _ _ _ _ | show loopQ _ _ _ _ _ _)) | (refine awp_exit ?_; (first | show AWP _ _ _ _ _ | show loopQ _ _ _ _ _ _)) | ((first | refine walkS_end (hK _ ?_) | refine walkD_end (hK _ _ (okTrace_spec (by kernel_rfl)) ?_)); clear hK K; (first | show AWP _ _ _ _ _ | show loopQ _ _ _ _ _ _)) | ((first | refine walkS_call3 rfl rfl rfl ?_ | refine walkD_call3 rfl rfl rfl ?_); simp (maxSteps := 2000000) (disch := omega) only [go_sem, ↓reduceIte, reduceCtorEq, Nat.reduceLT, Nat.reducePow, Nat.reduceLeDiff, Nat.reduceAdd, Nat.reduceMul, Nat.reduceSub, Nat.reduceEqDiff, Nat.reduceBEq, Int.reduceToNat, Int.reduceBEq, Int.reduceBNe, ty24, ty26, ty36, ty22, ty3, ty4, ty9, ty41, un4, ty48, hd, cb, eqty24, eqty26, hqj, hqm, hql]; (first | refine ⟨_, awake3_c, ?_⟩)) | ((first | refine walkS_run1 [] rfl ?_ | refine walkD_run1 [] rfl ?_); simp (maxSteps := 2000000) (disch := omega) only [go_sem, ↓reduceIte, reduceCtorEq, Nat.reduceLT, Nat.reducePow, Nat.reduceLeDiff, Nat.reduceAdd, Nat.reduceMul, Nat.reduceSub, Nat.reduceEqDiff, Nat.reduceBEq, Int.reduceToNat, Int.reduceBEq, Int.reduceBNe, ty24, ty26, ty36, ty22, ty3, ty4, ty9, ty41, un4, ty48, hd, cb, eqty24, eqty26, hqj, hqm, hql]; (repeat (first | refine ⟨by omega, ?_⟩ | refine ⟨True.intro, ?_⟩)))))
      refine awp_ret ⟨_, ?_, rfl⟩; rw [Try.results14]; simp (disch := omega) only [ResVars, ResVar, ptrLoc, go_sem, ↓reduceIte, reduceCtorEq, Nat.reduceLT, Nat.reducePow, Nat.reduceLeDiff, Nat.reduceAdd, Nat.reduceMul, Nat.reduceSub, Nat.reduceEqDiff, Nat.reduceBEq, Int.reduceToNat, Int.reduceBEq, Int.reduceBNe, ty24, ty26, ty36, ty22, ty3, ty4, ty9, ty41, un4, ty48, hd, cb, eqty24, eqty26, hqj, hqm, hql]
    · refine acalls_of_awp Try.func14 rfl (by decide +kernel) (by rw [Try.ntmps14]; simp) ?_; rw [Try.ntmps14]; simp only [frOf]
      (repeat ((fail_if_success (show AWP _ _ (.region 7 _ _) _ _)); first | refine awp_seq ?_ | refine awp_yes rfl ?_ | refine awp_no rfl ?_ | refine awp_block ?_ | (refine awp_region fun K hK => ?_) | (refine awp_draw (by kernel_rfl) (by kernel_rfl) fun K hK => ?_) | (refine awp_skip ?_; (first | show AWP _ _ _ _ _ | show loopQ _ _ _ _ _ _)) | (refine awp_exit ?_; (first | show AWP _ _ _ _ _ | show loopQ _ _ _ _ _ _)) | ((first | refine walkS_end (hK _ ?_) | refine walkD_end (hK _ _ (okTrace_spec (by kernel_rfl)) ?_)); clear hK K; (first | show AWP _ _ _ _ _ | show loopQ _ _ _ _ _ _)) | ((first | refine walkS_call3 rfl rfl rfl ?_ | refine walkD_call3 rfl rfl rfl ?_); simp (maxSteps := 2000000) (disch := omega) only [go_sem, ↓reduceIte, reduceCtorEq, Nat.reduceLT, Nat.reducePow, Nat.reduceLeDiff, Nat.reduceAdd, Nat.reduceMul, Nat.reduceSub, Nat.reduceEqDiff, Nat.reduceBEq, Int.reduceToNat, Int.reduceBEq, Int.reduceBNe, ty24, ty26, ty36, ty22, ty3, ty4, ty9, ty41, un4, ty48, hd, cb, eqty24, eqty26, hqj, hqm, hql]; (first | refine ⟨_, awake3_c, ?_⟩ | refine ⟨_, jn, ?_⟩ | refine ⟨_, mt, ?_⟩ | refine ⟨_, ls, ?_⟩ | refine ⟨_, pa, ?_⟩ | refine ⟨_, pb, ?_⟩)) | ((first | refine walkS_run1 [] rfl ?_ | refine walkD_run1 [] rfl ?_); simp (maxSteps := 2000000) (disch := omega) only [go_sem, ↓reduceIte, reduceCtorEq, Nat.reduceLT, Nat.reducePow, Nat.reduceLeDiff, Nat.reduceAdd, Nat.reduceMul, Nat.reduceSub, Nat.reduceEqDiff, Nat.reduceBEq, Int.reduceToNat, Int.reduceBEq, Int.reduceBNe, ty24, ty26, ty36, ty22, ty3, ty4, ty9, ty41, un4, ty48, hd, cb, eqty24, eqty26, hqj, hqm, hql]; (repeat (first | refine ⟨by omega, ?_⟩ | refine ⟨True.intro, ?_⟩)))))
      cases qj <;> cases qm <;> cases ql
      all_goals
        simp only [Bool.true_eq_false, false_implies, forall_const] at fj fm fl
        subst_vars
        cases bA <;> cases bB
      all_goals
        (repeat (first | refine awp_seq ?_ | refine awp_yes rfl ?_ | refine awp_no rfl ?_ | refine awp_block ?_ | (refine awp_region fun K hK => ?_) | (refine awp_draw (by kernel_rfl) (by kernel_rfl) fun K hK => ?_) | (refine awp_skip ?_; (first | show AWP _ _ _ _ _ | show loopQ _ _ _ _ _ _)) | (refine awp_exit ?_; (first | show AWP _ _ _ _ _ | show loopQ _ _ _ _ _ _)) | ((first | refine walkS_end (hK _ ?_) | refine walkD_end (hK _ _ (okTrace_spec (by kernel_rfl)) ?_)); clear hK K; (first | show AWP _ _ _ _ _ | show loopQ _ _ _ _ _ _)) | ((first | refine walkS_call3 rfl rfl rfl ?_ | refine walkD_call3 rfl rfl rfl ?_); simp (maxSteps := 2000000) (disch := omega) only [go_sem, ↓reduceIte, reduceCtorEq, Nat.reduceLT, Nat.reducePow, Nat.reduceLeDiff, Nat.reduceAdd, Nat.reduceMul, Nat.reduceSub, Nat.reduceEqDiff, Nat.reduceBEq, Int.reduceToNat, Int.reduceBEq, Int.reduceBNe, ty24, ty26, ty36, ty22, ty3, ty4, ty9, ty41, un4, ty48, hd, cb, eqty24, eqty26, hqj, hqm, hql]; (first | refine ⟨_, pj, ?_⟩ | refine ⟨_, pm, ?_⟩ | refine ⟨_, pl, ?_⟩)) | ((first | refine walkS_run1 [] rfl ?_ | refine walkD_run1 [] rfl ?_); simp (maxSteps := 2000000) (disch := omega) only [go_sem, ↓reduceIte, reduceCtorEq, Nat.reduceLT, Nat.reducePow, Nat.reduceLeDiff, Nat.reduceAdd, Nat.reduceMul, Nat.reduceSub, Nat.reduceEqDiff, Nat.reduceBEq, Int.reduceToNat, Int.reduceBEq, Int.reduceBNe, ty24, ty26, ty36, ty22, ty3, ty4, ty9, ty41, un4, ty48, hd, cb, eqty24, eqty26, hqj, hqm, hql]; (repeat (first | refine ⟨by omega, ?_⟩ | refine ⟨True.intro, ?_⟩)))))
        refine awp_ret ⟨_, ?_, rfl⟩; rw [Try.results14]; simp (disch := omega) only [ResVars, ResVar, ptrLoc, go_sem, ↓reduceIte, reduceCtorEq, Nat.reduceLT, Nat.reducePow, Nat.reduceLeDiff, Nat.reduceAdd, Nat.reduceMul, Nat.reduceSub, Nat.reduceEqDiff, Nat.reduceBEq, Int.reduceToNat, Int.reduceBEq, Int.reduceBNe, ty24, ty26, ty36, ty22, ty3, ty4, ty9, ty41, un4, ty48, hd, cb, eqty24, eqty26, hqj, hqm, hql]
end Go.Proofs.Ytfcfhlfehomhpaa
