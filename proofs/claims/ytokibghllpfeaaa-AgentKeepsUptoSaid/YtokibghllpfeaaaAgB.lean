/- Package agent: Letter. Conditions: none, but that no row is greater than memory bears. -/
import Derived.Test.YtokibghllpfeaaaAgA
set_option linter.unusedSimpArgs false
set_option linter.unusedVariables false
namespace Go.Proofs.Ytokibghllpfeaaa
open Go Go.Proofs.Ytokibghllpfeaaa.AL
def nilA : AV := .p (.d (.v (.slice none 0 0)))
set_option maxRecDepth 100000 in
theorem Letter_late (a : Ag) (l : Ltr) (h : l.fr ≠ -1 ∨ l.to ≠ a.n ∨ l.se < a.ser) : MCalls Try.prog 13 [.loc 1000 0, .p (.agg (letD l))] (agL a) (fun rs M => rs = [nilA] ∧ M = agL a) := by
  have fin : ∀ {A : ASt}, AL.look A.fr 4 = some nilA → (∀ p ∈ agL a, AL.look A.locs p.1 = some p.2) → retM Try.prog Try.f13 (fun rs M => rs = [nilA] ∧ M = agL a) .ret A := fun {A} h1 h2 => (retM_list (A := A) (rs := [nilA]) (L := agL a) ⟨rfl, rfl⟩ (show ResVarsA Try.prog A [.tmp 4] [nilA] from ⟨h1, trivial⟩) h2).1
  by_cases h1 : l.fr = -1
  · have q1 : (l.fr != -1) = false := ine_ff h1
    by_cases h2 : l.to = a.n
    · have q2 : (l.to != a.n) = false := ine_ff h2
      have h3 : l.se < a.ser := by
        rcases h with h | h | h
        · exact absurd h1 h
        · exact absurd h2 h
        · exact h
      unfold agL at *
      refine mcalls_of_awp Try.func13 rfl (by decide +kernel) (by rw [Try.ntmps13]; simp) (fun l X h => by simp only [AL.look] at h; (repeat' split at h); all_goals first | omega | cases h) ?_; rw [Try.ntmps13]; simp only [frA]
      (repeat (first | refine awp_seq ?_ | refine awp_yes rfl ?_ | refine awp_no rfl ?_ | refine awp_block ?_ | (refine awp_region fun K hK => ?_) | (refine awp_draw (by kernel_rfl) (by kernel_rfl) fun K hK => ?_) | (refine awp_skip ?_; (first | show AWP _ _ _ _ _ | show loopQ _ _ _ _ _ _ | (simp only [blockQ_n]; first | show AWP _ _ _ _ _ | show loopQ _ _ _ _ _ _))) | (refine awp_exit ?_; (first | show AWP _ _ _ _ _ | show loopQ _ _ _ _ _ _ | (simp only [blockQ_n]; first | show AWP _ _ _ _ _ | show loopQ _ _ _ _ _ _))) | ((first | refine walkS_end (hK _ ?_) | refine walkD_end (hK _ _ (okTrace_spec (by kernel_rfl)) ?_)); clear hK K; (first | show AWP _ _ _ _ _ | show loopQ _ _ _ _ _ _ | (simp only [blockQ_n]; first | show AWP _ _ _ _ _ | show loopQ _ _ _ _ _ _))) | ((first | refine walkS_run1 [] rfl ?_ | refine walkD_run1 [] rfl ?_); simp (maxSteps := 2000000) (disch := omega) only [go_sem, ↓reduceIte, reduceCtorEq, Nat.reduceLT, Nat.reducePow, Nat.reduceLeDiff, Nat.reduceAdd, Nat.reduceMul, Nat.reduceSub, Nat.reduceEqDiff, Nat.reduceBEq, Int.reduceToNat, Int.reduceBEq, Int.reduceBNe, agL, agC, letD, q1, q2]; (repeat (first | refine ⟨by omega, ?_⟩ | refine ⟨True.intro, ?_⟩)))))
      refine awp_ret (fin rfl ?_)
      simp [AL.look, agC]
    · have q2 : (l.to != a.n) = true := ine_tt h2
      unfold agL at *
      refine mcalls_of_awp Try.func13 rfl (by decide +kernel) (by rw [Try.ntmps13]; simp) (fun l X h => by simp only [AL.look] at h; (repeat' split at h); all_goals first | omega | cases h) ?_; rw [Try.ntmps13]; simp only [frA]
      (repeat (first | refine awp_seq ?_ | refine awp_yes rfl ?_ | refine awp_no rfl ?_ | refine awp_block ?_ | (refine awp_region fun K hK => ?_) | (refine awp_draw (by kernel_rfl) (by kernel_rfl) fun K hK => ?_) | (refine awp_skip ?_; (first | show AWP _ _ _ _ _ | show loopQ _ _ _ _ _ _ | (simp only [blockQ_n]; first | show AWP _ _ _ _ _ | show loopQ _ _ _ _ _ _))) | (refine awp_exit ?_; (first | show AWP _ _ _ _ _ | show loopQ _ _ _ _ _ _ | (simp only [blockQ_n]; first | show AWP _ _ _ _ _ | show loopQ _ _ _ _ _ _))) | ((first | refine walkS_end (hK _ ?_) | refine walkD_end (hK _ _ (okTrace_spec (by kernel_rfl)) ?_)); clear hK K; (first | show AWP _ _ _ _ _ | show loopQ _ _ _ _ _ _ | (simp only [blockQ_n]; first | show AWP _ _ _ _ _ | show loopQ _ _ _ _ _ _))) | ((first | refine walkS_run1 [] rfl ?_ | refine walkD_run1 [] rfl ?_); simp (maxSteps := 2000000) (disch := omega) only [go_sem, ↓reduceIte, reduceCtorEq, Nat.reduceLT, Nat.reducePow, Nat.reduceLeDiff, Nat.reduceAdd, Nat.reduceMul, Nat.reduceSub, Nat.reduceEqDiff, Nat.reduceBEq, Int.reduceToNat, Int.reduceBEq, Int.reduceBNe, agL, agC, letD, q1, q2]; (repeat (first | refine ⟨by omega, ?_⟩ | refine ⟨True.intro, ?_⟩)))))
      refine awp_ret (fin rfl ?_)
      simp [AL.look, agC]
  · have q1 : (l.fr != -1) = true := ine_tt h1
    unfold agL at *
    refine mcalls_of_awp Try.func13 rfl (by decide +kernel) (by rw [Try.ntmps13]; simp) (fun l X h => by simp only [AL.look] at h; (repeat' split at h); all_goals first | omega | cases h) ?_; rw [Try.ntmps13]; simp only [frA]
    (repeat (first | refine awp_seq ?_ | refine awp_yes rfl ?_ | refine awp_no rfl ?_ | refine awp_block ?_ | (refine awp_region fun K hK => ?_) | (refine awp_draw (by kernel_rfl) (by kernel_rfl) fun K hK => ?_) | (refine awp_skip ?_; (first | show AWP _ _ _ _ _ | show loopQ _ _ _ _ _ _ | (simp only [blockQ_n]; first | show AWP _ _ _ _ _ | show loopQ _ _ _ _ _ _))) | (refine awp_exit ?_; (first | show AWP _ _ _ _ _ | show loopQ _ _ _ _ _ _ | (simp only [blockQ_n]; first | show AWP _ _ _ _ _ | show loopQ _ _ _ _ _ _))) | ((first | refine walkS_end (hK _ ?_) | refine walkD_end (hK _ _ (okTrace_spec (by kernel_rfl)) ?_)); clear hK K; (first | show AWP _ _ _ _ _ | show loopQ _ _ _ _ _ _ | (simp only [blockQ_n]; first | show AWP _ _ _ _ _ | show loopQ _ _ _ _ _ _))) | ((first | refine walkS_run1 [] rfl ?_ | refine walkD_run1 [] rfl ?_); simp (maxSteps := 2000000) (disch := omega) only [go_sem, ↓reduceIte, reduceCtorEq, Nat.reduceLT, Nat.reducePow, Nat.reduceLeDiff, Nat.reduceAdd, Nat.reduceMul, Nat.reduceSub, Nat.reduceEqDiff, Nat.reduceBEq, Int.reduceToNat, Int.reduceBEq, Int.reduceBNe, agL, agC, letD, q1]; (repeat (first | refine ⟨by omega, ?_⟩ | refine ⟨True.intro, ?_⟩)))))
    refine awp_ret (fin rfl ?_)
    simp [AL.look, agC]
set_option maxRecDepth 100000 in
theorem Letter_none (a : Ag) (l : Ltr) (h1 : l.fr = -1) (h2 : l.to = a.n) (h3 : ¬ l.se < a.ser) (k1 : l.kd ≠ 1) (k3 : l.kd ≠ 3) (k5 : l.kd ≠ 5) :
    MCalls Try.prog 13 [.loc 1000 0, .p (.agg (letD l))] (agL a) (fun rs M => rs = [nilA] ∧ M = agL { a with ser := l.se }) := by
  have q1 : (l.fr != -1) = false := ine_ff h1
  have q2 : (l.to != a.n) = false := ine_ff h2
  unfold agL
  refine mcalls_of_awp Try.func13 rfl (by decide +kernel) (by rw [Try.ntmps13]; simp) (fun l X h => by simp only [AL.look] at h; (repeat' split at h); all_goals first | omega | cases h) ?_; rw [Try.ntmps13]; simp only [frA]
  (repeat (first | refine awp_seq ?_ | refine awp_yes rfl ?_ | refine awp_no rfl ?_ | refine awp_block ?_ | (refine awp_region fun K hK => ?_) | (refine awp_draw (by kernel_rfl) (by kernel_rfl) fun K hK => ?_) | (refine awp_skip ?_; (first | show AWP _ _ _ _ _ | show loopQ _ _ _ _ _ _ | (simp only [blockQ_n]; first | show AWP _ _ _ _ _ | show loopQ _ _ _ _ _ _))) | (refine awp_exit ?_; (first | show AWP _ _ _ _ _ | show loopQ _ _ _ _ _ _ | (simp only [blockQ_n]; first | show AWP _ _ _ _ _ | show loopQ _ _ _ _ _ _))) | ((first | refine walkS_end (hK _ ?_) | refine walkD_end (hK _ _ (okTrace_spec (by kernel_rfl)) ?_)); clear hK K; (first | show AWP _ _ _ _ _ | show loopQ _ _ _ _ _ _ | (simp only [blockQ_n]; first | show AWP _ _ _ _ _ | show loopQ _ _ _ _ _ _))) | ((first | refine walkS_call3 rfl rfl rfl ?_ | refine walkD_call3 rfl rfl rfl ?_); simp (maxSteps := 2000000) (disch := omega) only [go_sem, ↓reduceIte, reduceCtorEq, Nat.reduceLT, Nat.reducePow, Nat.reduceLeDiff, Nat.reduceAdd, Nat.reduceMul, Nat.reduceSub, Nat.reduceEqDiff, Nat.reduceBEq, Int.reduceToNat, Int.reduceBEq, Int.reduceBNe, agL, agC, letD, q1, q2]; (first | refine ⟨_, does_no l.kd k1 k3 k5, ?_⟩)) | ((first | refine walkS_run1 [] rfl ?_ | refine walkD_run1 [] rfl ?_); simp (maxSteps := 2000000) (disch := omega) only [go_sem, ↓reduceIte, reduceCtorEq, Nat.reduceLT, Nat.reducePow, Nat.reduceLeDiff, Nat.reduceAdd, Nat.reduceMul, Nat.reduceSub, Nat.reduceEqDiff, Nat.reduceBEq, Int.reduceToNat, Int.reduceBEq, Int.reduceBNe, agL, agC, letD, q1, q2]; (repeat (first | refine ⟨by omega, ?_⟩ | refine ⟨True.intro, ?_⟩)))))
  refine awp_ret ?_
  refine (retM_list ⟨rfl, rfl⟩ ?_ ?_).1
  · exact ⟨rfl, trivial⟩
  · simp [AL.look, agC]
def ansD (k n ve se : Int) : Nat → List Dat := fun i => [[Dat.v (.int .i64 k), Dat.v (.int .i64 n), Dat.v (.int .i64 (-1)), Dat.v (.int .i64 ve), Dat.v (.int .i64 se), Dat.v (.slice none 0 0)]].getD i []
set_option maxRecDepth 100000 in
theorem Letter_do (a a2 : Ag) (l : Ltr) (g : FuncId) (k : Int) (h1 : l.fr = -1) (h2 : l.to = a.n) (h3 : ¬ l.se < a.ser) (hd : ACalls Try.prog 34 [.d (.v (.int .i64 l.kd))] (· = [.fn (.func g) [] []]))
    (hm : MCalls Try.prog g [.loc 1000 0, .p (.agg (letD l))] (agL { a with ser := l.se }) (fun rs M => rs = [intP k] ∧ M = agL a2)) (hk : k ≠ 0) :
    MCalls Try.prog 13 [.loc 1000 0, .p (.agg (letD l))] (agL a) (fun rs M => rs = [.p (.d (.sl 6 1 (ansD k a2.n l.ve l.se)))] ∧ M = agL a2) := by
  have q1 : (l.fr != -1) = false := ine_ff h1
  have q2 : (l.to != a.n) = false := ine_ff h2
  have q3 : (k == 0) = false := ieq_ff hk
  unfold agL
  refine mcalls_of_awp Try.func13 rfl (by decide +kernel) (by rw [Try.ntmps13]; simp) (fun l X h => by simp only [AL.look] at h; (repeat' split at h); all_goals first | omega | cases h) ?_; rw [Try.ntmps13]; simp only [frA]
  (repeat (first | refine awp_seq ?_ | refine awp_yes rfl ?_ | refine awp_no rfl ?_ | refine awp_block ?_ | (refine awp_region fun K hK => ?_) | (refine awp_draw (by kernel_rfl) (by kernel_rfl) fun K hK => ?_) | (refine awp_skip ?_; (first | show AWP _ _ _ _ _ | show loopQ _ _ _ _ _ _ | (simp only [blockQ_n]; first | show AWP _ _ _ _ _ | show loopQ _ _ _ _ _ _))) | (refine awp_exit ?_; (first | show AWP _ _ _ _ _ | show loopQ _ _ _ _ _ _ | (simp only [blockQ_n]; first | show AWP _ _ _ _ _ | show loopQ _ _ _ _ _ _))) | ((first | refine walkS_end (hK _ ?_) | refine walkD_end (hK _ _ (okTrace_spec (by kernel_rfl)) ?_)); clear hK K; (first | show AWP _ _ _ _ _ | show loopQ _ _ _ _ _ _ | (simp only [blockQ_n]; first | show AWP _ _ _ _ _ | show loopQ _ _ _ _ _ _))) | ((first | refine walkS_call3 rfl rfl rfl ?_ | refine walkD_call3 rfl rfl rfl ?_); simp (maxSteps := 2000000) (disch := omega) only [go_sem, ↓reduceIte, reduceCtorEq, Nat.reduceLT, Nat.reducePow, Nat.reduceLeDiff, Nat.reduceAdd, Nat.reduceMul, Nat.reduceSub, Nat.reduceEqDiff, Nat.reduceBEq, Int.reduceToNat, Int.reduceBEq, Int.reduceBNe, agL, agC, letD, q1, q2, q3, intP]; (first | refine ⟨_, hd, ?_⟩)) | ((first | refine walkS_run1 [] rfl ?_ | refine walkD_run1 [] rfl ?_); simp (maxSteps := 2000000) (disch := omega) only [go_sem, ↓reduceIte, reduceCtorEq, Nat.reduceLT, Nat.reducePow, Nat.reduceLeDiff, Nat.reduceAdd, Nat.reduceMul, Nat.reduceSub, Nat.reduceEqDiff, Nat.reduceBEq, Int.reduceToNat, Int.reduceBEq, Int.reduceBNe, agL, agC, letD, q1, q2, q3, intP]; (repeat (first | refine ⟨by omega, ?_⟩ | refine ⟨True.intro, ?_⟩)))))
  unfold agL letD at hm
  (refine walkS_cons _ (step_mcall [(1000, 1000), (1001, 1001)] rfl rfl rfl rfl rfl rfl (hm) rfl (namesOK_of (by repeat (first | exact trivial | refine ⟨rfl, ?_⟩)) (by kernel_rfl))) ?_); simp (maxSteps := 2000000) (disch := omega) only [go_sem, ↓reduceIte, reduceCtorEq, Nat.reduceLT, Nat.reducePow, Nat.reduceLeDiff, Nat.reduceAdd, Nat.reduceMul, Nat.reduceSub, Nat.reduceEqDiff, Nat.reduceBEq, Int.reduceToNat, Int.reduceBEq, Int.reduceBNe, agL, agC, letD, q1, q2, q3, intP]
  (repeat (first | refine awp_seq ?_ | refine awp_yes rfl ?_ | refine awp_no rfl ?_ | refine awp_block ?_ | (refine awp_region fun K hK => ?_) | (refine awp_draw (by kernel_rfl) (by kernel_rfl) fun K hK => ?_) | (refine awp_skip ?_; (first | show AWP _ _ _ _ _ | show loopQ _ _ _ _ _ _ | (simp only [blockQ_n]; first | show AWP _ _ _ _ _ | show loopQ _ _ _ _ _ _))) | (refine awp_exit ?_; (first | show AWP _ _ _ _ _ | show loopQ _ _ _ _ _ _ | (simp only [blockQ_n]; first | show AWP _ _ _ _ _ | show loopQ _ _ _ _ _ _))) | ((first | refine walkS_end (hK _ ?_) | refine walkD_end (hK _ _ (okTrace_spec (by kernel_rfl)) ?_)); clear hK K; (first | show AWP _ _ _ _ _ | show loopQ _ _ _ _ _ _ | (simp only [blockQ_n]; first | show AWP _ _ _ _ _ | show loopQ _ _ _ _ _ _))) | ((first | refine walkS_run1 [] rfl ?_ | refine walkD_run1 [] rfl ?_); simp (maxSteps := 2000000) (disch := omega) only [go_sem, ↓reduceIte, reduceCtorEq, Nat.reduceLT, Nat.reducePow, Nat.reduceLeDiff, Nat.reduceAdd, Nat.reduceMul, Nat.reduceSub, Nat.reduceEqDiff, Nat.reduceBEq, Int.reduceToNat, Int.reduceBEq, Int.reduceBNe, agL, agC, letD, q1, q2, q3, intP]; (repeat (first | refine ⟨by omega, ?_⟩ | refine ⟨True.intro, ?_⟩)))))
  refine awp_ret ?_
  refine (retM_list ⟨rfl, rfl⟩ ?_ ?_).1
  · exact ⟨rfl, trivial⟩
  · simp [AL.look, agC]
set_option maxRecDepth 100000 in
theorem Letter_nil (a a2 : Ag) (l : Ltr) (g : FuncId) (h1 : l.fr = -1) (h2 : l.to = a.n) (h3 : ¬ l.se < a.ser) (hd : ACalls Try.prog 34 [.d (.v (.int .i64 l.kd))] (· = [.fn (.func g) [] []]))
    (hm : MCalls Try.prog g [.loc 1000 0, .p (.agg (letD l))] (agL { a with ser := l.se }) (fun rs M => rs = [intP 0] ∧ M = agL a2)) :
    MCalls Try.prog 13 [.loc 1000 0, .p (.agg (letD l))] (agL a) (fun rs M => rs = [nilA] ∧ M = agL a2) := by
  have q1 : (l.fr != -1) = false := ine_ff h1
  have q2 : (l.to != a.n) = false := ine_ff h2
  unfold agL
  refine mcalls_of_awp Try.func13 rfl (by decide +kernel) (by rw [Try.ntmps13]; simp) (fun l X h => by simp only [AL.look] at h; (repeat' split at h); all_goals first | omega | cases h) ?_; rw [Try.ntmps13]; simp only [frA]
  (repeat (first | refine awp_seq ?_ | refine awp_yes rfl ?_ | refine awp_no rfl ?_ | refine awp_block ?_ | (refine awp_region fun K hK => ?_) | (refine awp_draw (by kernel_rfl) (by kernel_rfl) fun K hK => ?_) | (refine awp_skip ?_; (first | show AWP _ _ _ _ _ | show loopQ _ _ _ _ _ _ | (simp only [blockQ_n]; first | show AWP _ _ _ _ _ | show loopQ _ _ _ _ _ _))) | (refine awp_exit ?_; (first | show AWP _ _ _ _ _ | show loopQ _ _ _ _ _ _ | (simp only [blockQ_n]; first | show AWP _ _ _ _ _ | show loopQ _ _ _ _ _ _))) | ((first | refine walkS_end (hK _ ?_) | refine walkD_end (hK _ _ (okTrace_spec (by kernel_rfl)) ?_)); clear hK K; (first | show AWP _ _ _ _ _ | show loopQ _ _ _ _ _ _ | (simp only [blockQ_n]; first | show AWP _ _ _ _ _ | show loopQ _ _ _ _ _ _))) | ((first | refine walkS_call3 rfl rfl rfl ?_ | refine walkD_call3 rfl rfl rfl ?_); simp (maxSteps := 2000000) (disch := omega) only [go_sem, ↓reduceIte, reduceCtorEq, Nat.reduceLT, Nat.reducePow, Nat.reduceLeDiff, Nat.reduceAdd, Nat.reduceMul, Nat.reduceSub, Nat.reduceEqDiff, Nat.reduceBEq, Int.reduceToNat, Int.reduceBEq, Int.reduceBNe, agL, agC, letD, q1, q2, intP]; (first | refine ⟨_, hd, ?_⟩)) | ((first | refine walkS_run1 [] rfl ?_ | refine walkD_run1 [] rfl ?_); simp (maxSteps := 2000000) (disch := omega) only [go_sem, ↓reduceIte, reduceCtorEq, Nat.reduceLT, Nat.reducePow, Nat.reduceLeDiff, Nat.reduceAdd, Nat.reduceMul, Nat.reduceSub, Nat.reduceEqDiff, Nat.reduceBEq, Int.reduceToNat, Int.reduceBEq, Int.reduceBNe, agL, agC, letD, q1, q2, intP]; (repeat (first | refine ⟨by omega, ?_⟩ | refine ⟨True.intro, ?_⟩)))))
  unfold agL letD at hm
  (refine walkS_cons _ (step_mcall [(1000, 1000), (1001, 1001)] rfl rfl rfl rfl rfl rfl (hm) rfl (namesOK_of (by repeat (first | exact trivial | refine ⟨rfl, ?_⟩)) (by kernel_rfl))) ?_); simp (maxSteps := 2000000) (disch := omega) only [go_sem, ↓reduceIte, reduceCtorEq, Nat.reduceLT, Nat.reducePow, Nat.reduceLeDiff, Nat.reduceAdd, Nat.reduceMul, Nat.reduceSub, Nat.reduceEqDiff, Nat.reduceBEq, Int.reduceToNat, Int.reduceBEq, Int.reduceBNe, agL, agC, letD, q1, q2, intP]
  (repeat (first | refine awp_seq ?_ | refine awp_yes rfl ?_ | refine awp_no rfl ?_ | refine awp_block ?_ | (refine awp_region fun K hK => ?_) | (refine awp_draw (by kernel_rfl) (by kernel_rfl) fun K hK => ?_) | (refine awp_skip ?_; (first | show AWP _ _ _ _ _ | show loopQ _ _ _ _ _ _ | (simp only [blockQ_n]; first | show AWP _ _ _ _ _ | show loopQ _ _ _ _ _ _))) | (refine awp_exit ?_; (first | show AWP _ _ _ _ _ | show loopQ _ _ _ _ _ _ | (simp only [blockQ_n]; first | show AWP _ _ _ _ _ | show loopQ _ _ _ _ _ _))) | ((first | refine walkS_end (hK _ ?_) | refine walkD_end (hK _ _ (okTrace_spec (by kernel_rfl)) ?_)); clear hK K; (first | show AWP _ _ _ _ _ | show loopQ _ _ _ _ _ _ | (simp only [blockQ_n]; first | show AWP _ _ _ _ _ | show loopQ _ _ _ _ _ _))) | ((first | refine walkS_run1 [] rfl ?_ | refine walkD_run1 [] rfl ?_); simp (maxSteps := 2000000) (disch := omega) only [go_sem, ↓reduceIte, reduceCtorEq, Nat.reduceLT, Nat.reducePow, Nat.reduceLeDiff, Nat.reduceAdd, Nat.reduceMul, Nat.reduceSub, Nat.reduceEqDiff, Nat.reduceBEq, Int.reduceToNat, Int.reduceBEq, Int.reduceBNe, agL, agC, letD, q1, q2, intP]; (repeat (first | refine ⟨by omega, ?_⟩ | refine ⟨True.intro, ?_⟩)))))
  refine awp_ret ?_
  refine (retM_list ⟨rfl, rfl⟩ ?_ ?_).1
  · exact ⟨rfl, trivial⟩
  · simp [AL.look, agC]
/-! ### all letters in one -/
/-- what a letter makes of an agent; the kind of the answer, 0: none -/
def Ag.step (a : Ag) (l : Ltr) : Ag × Int :=
  if l.fr ≠ -1 ∨ l.to ≠ a.n ∨ l.se < a.ser then (a, 0) else
  if l.kd = 1 then ({ a with ser := l.se, es := putA l.ve l.ts a.es }, 2) else
  if l.kd = 3 then (if (getA l.ve a.es).isSome then ({ a with ser := l.se, cur := l.ve }, 4) else ({ a with ser := l.se }, 0)) else
  if l.kd = 5 then (if l.ve = a.cur then ({ a with ser := l.se }, 0) else ({ a with ser := l.se, es := delA l.ve a.es }, 6)) else
  ({ a with ser := l.se }, 0)
def ansA (k n ve se : Int) : AV := if k = 0 then nilA else .p (.d (.sl 6 1 (ansD k n ve se)))
theorem Letter_c (a : Ag) (l : Ltr) (hs : smallR l.ts) : MCalls Try.prog 13 [.loc 1000 0, .p (.agg (letD l))] (agL a) (fun rs M => rs = [ansA (a.step l).2 a.n l.ve l.se] ∧ M = agL (a.step l).1) := by
  unfold Ag.step
  by_cases h : l.fr ≠ -1 ∨ l.to ≠ a.n ∨ l.se < a.ser
  · rw [if_pos h]; exact Letter_late a l h
  · rw [if_neg h]
    have h1 : l.fr = -1 := Classical.byContradiction fun e => h (.inl e)
    have h2 : l.to = a.n := Classical.byContradiction fun e => h (.inr (.inl e))
    have h3 : ¬ l.se < a.ser := fun e => h (.inr (.inr e))
    by_cases k1 : l.kd = 1
    · rw [if_pos k1]
      exact Letter_do a { a with ser := l.se, es := putA l.ve l.ts a.es } l _ 2 h1 h2 h3 (by rw [k1]; exact does_1) (install_c { a with ser := l.se } l hs) (by decide)
    · rw [if_neg k1]
      by_cases k3 : l.kd = 3
      · rw [if_pos k3]
        cases hg : getA l.ve a.es with
        | some t => exact Letter_do a { a with ser := l.se, cur := l.ve } l _ 4 h1 h2 h3 (by rw [k3]; exact does_3) (flip_some { a with ser := l.se } l t hg) (by decide)
        | none => exact Letter_nil a { a with ser := l.se } l _ h1 h2 h3 (by rw [k3]; exact does_3) (flip_none { a with ser := l.se } l hg)
      · rw [if_neg k3]
        by_cases k5 : l.kd = 5
        · rw [if_pos k5]
          by_cases hv : l.ve = a.cur
          · rw [if_pos hv]
            exact Letter_nil a { a with ser := l.se } l _ h1 h2 h3 (by rw [k5]; exact does_5) (forget_same { a with ser := l.se } l hv)
          · rw [if_neg hv]
            exact Letter_do a { a with ser := l.se, es := delA l.ve a.es } l _ 6 h1 h2 h3 (by rw [k5]; exact does_5) (forget_other { a with ser := l.se } l hv) (by decide)
        · rw [if_neg k5]
          exact Letter_none a l h1 h2 h3 k1 k3 k5
def ltr0 : Ltr := ⟨0, 0, 0, 0, 0, []⟩
def rowL (l : List Ltr) : Nat → List Dat := fun i => letD (l.getD i ltr0)
theorem rowL_at (l : List Ltr) (i : Nat) : rowL l i = letD (l.getD i ltr0) := rfl
end Go.Proofs.Ytokibghllpfeaaa
