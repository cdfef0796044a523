/- Package rule, on: Sort; the document's Order. Conditions: none, but that no row is greater than memory bears. -/
import Derived.Test.YtgfnpkpbebihgaaStable3
import Derived.Test.YtgfnpkpbebihgaaGen
set_option linter.unusedSimpArgs false
set_option linter.unusedVariables false
namespace Go.Proofs.Ytgfnpkpbebihgaa
open Go.Proofs.Ytgfnpkpbebihgaa.AL
set_option maxRecDepth 100000 in
theorem CloneR_some (n : Nat) (f : Nat → List Dat) (h0 : 0 < n) (hn : n ≤ 1099511627776) : MCalls Try.prog 40 [.p (.d (.sl 12 n f))] [] (fun rs M => rs = [.ow 5 1 12 n] ∧ M = [(5, .own 30 12 n 1 f)]) := by
  refine mcalls_of_awp Try.func40 rfl (by decide +kernel) (by rw [Try.ntmps40]; simp) (fun l X h => by simp only [AL.look] at h; (repeat' split at h); all_goals first | omega | cases h) ?_; rw [Try.ntmps40]; simp only [frA]
  (repeat (first | refine awp_seq ?_ | refine awp_yes rfl ?_ | refine awp_no rfl ?_ | refine awp_block ?_ | (refine awp_region fun K hK => ?_) | (refine awp_draw (by kernel_rfl) (by kernel_rfl) fun K hK => ?_) | (refine awp_skip ?_; (first | show AWP _ _ _ _ _ | show loopQ _ _ _ _ _ _ | (simp only [blockQ_n]; first | show AWP _ _ _ _ _ | show loopQ _ _ _ _ _ _))) | (refine awp_exit ?_; (first | show AWP _ _ _ _ _ | show loopQ _ _ _ _ _ _ | (simp only [blockQ_n]; first | show AWP _ _ _ _ _ | show loopQ _ _ _ _ _ _))) | ((first | refine walkS_end (hK _ ?_) | refine walkD_end (hK _ _ (okTrace_spec (by kernel_rfl)) ?_)); clear hK K; (first | show AWP _ _ _ _ _ | show loopQ _ _ _ _ _ _ | (simp only [blockQ_n]; first | show AWP _ _ _ _ _ | show loopQ _ _ _ _ _ _))) | ((first | refine walkS_run1 [10005] rfl ?_ | refine walkD_run1 [10005] rfl ?_); simp (maxSteps := 2000000) (disch := omega) only [go_sem, ↓reduceIte, reduceCtorEq, Nat.reduceLT, Nat.reducePow, Nat.reduceLeDiff, Nat.reduceAdd, Nat.reduceMul, Nat.reduceSub, Nat.reduceEqDiff, Nat.reduceBEq, Int.reduceToNat, Int.reduceBEq, Int.reduceBNe, ty30, ty34, ty26, ty24, ty22, ty3, ty36, ty85, ty120, ty4, hd, cb, ruleD]; (repeat (first | refine ⟨by omega, ?_⟩ | refine ⟨True.intro, ?_⟩)))))
  refine awp_ownf 5 f rfl (fun i hi => by unfold catF; rw [if_neg (by omega)]; rfl) ?_
  refine awp_ret ?_
  exact retM_one rfl rfl rfl ⟨rfl, rfl⟩
set_option maxRecDepth 100000 in
theorem CloneR_emp (a : Addr) (c : Nat) (f : Nat → List Dat) : MCalls Try.prog 40 [.p (.d (.v (.slice (some a) 0 c)))] [] (fun rs M => rs = [.ow 5 1 12 0] ∧ M = [(5, .own 30 12 0 1 f)]) := by
  refine mcalls_of_awp Try.func40 rfl (by decide +kernel) (by rw [Try.ntmps40]; simp) (fun l X h => by simp only [AL.look] at h; (repeat' split at h); all_goals first | omega | cases h) ?_; rw [Try.ntmps40]; simp only [frA]
  (repeat ((fail_if_success (show AWP _ _ (.region 3 _ _) _ _)); first | refine awp_seq ?_ | refine awp_yes rfl ?_ | refine awp_no rfl ?_ | refine awp_block ?_ | (refine awp_region fun K hK => ?_) | (refine awp_draw (by kernel_rfl) (by kernel_rfl) fun K hK => ?_) | (refine awp_skip ?_; (first | show AWP _ _ _ _ _ | show loopQ _ _ _ _ _ _ | (simp only [blockQ_n]; first | show AWP _ _ _ _ _ | show loopQ _ _ _ _ _ _))) | (refine awp_exit ?_; (first | show AWP _ _ _ _ _ | show loopQ _ _ _ _ _ _ | (simp only [blockQ_n]; first | show AWP _ _ _ _ _ | show loopQ _ _ _ _ _ _))) | ((first | refine walkS_end (hK _ ?_) | refine walkD_end (hK _ _ (okTrace_spec (by kernel_rfl)) ?_)); clear hK K; (first | show AWP _ _ _ _ _ | show loopQ _ _ _ _ _ _ | (simp only [blockQ_n]; first | show AWP _ _ _ _ _ | show loopQ _ _ _ _ _ _))) | ((first | refine walkS_run1 [10005] rfl ?_ | refine walkD_run1 [10005] rfl ?_); simp (maxSteps := 2000000) (disch := omega) only [go_sem, ↓reduceIte, reduceCtorEq, Nat.reduceLT, Nat.reducePow, Nat.reduceLeDiff, Nat.reduceAdd, Nat.reduceMul, Nat.reduceSub, Nat.reduceEqDiff, Nat.reduceBEq, Int.reduceToNat, Int.reduceBEq, Int.reduceBNe, ty30, ty34, ty26, ty24, ty22, ty3, ty36, ty85, ty120, ty4, hd, cb, ruleD]; (repeat (first | refine ⟨by omega, ?_⟩ | refine ⟨True.intro, ?_⟩)))))
  refine awp_slot 0 _ (.p (.d (.sl 12 0 f))) rfl le_emp ?_
  (repeat (first | refine awp_seq ?_ | refine awp_yes rfl ?_ | refine awp_no rfl ?_ | refine awp_block ?_ | (refine awp_region fun K hK => ?_) | (refine awp_draw (by kernel_rfl) (by kernel_rfl) fun K hK => ?_) | (refine awp_skip ?_; (first | show AWP _ _ _ _ _ | show loopQ _ _ _ _ _ _ | (simp only [blockQ_n]; first | show AWP _ _ _ _ _ | show loopQ _ _ _ _ _ _))) | (refine awp_exit ?_; (first | show AWP _ _ _ _ _ | show loopQ _ _ _ _ _ _ | (simp only [blockQ_n]; first | show AWP _ _ _ _ _ | show loopQ _ _ _ _ _ _))) | ((first | refine walkS_end (hK _ ?_) | refine walkD_end (hK _ _ (okTrace_spec (by kernel_rfl)) ?_)); clear hK K; (first | show AWP _ _ _ _ _ | show loopQ _ _ _ _ _ _ | (simp only [blockQ_n]; first | show AWP _ _ _ _ _ | show loopQ _ _ _ _ _ _))) | ((first | refine walkS_run1 [10005] rfl ?_ | refine walkD_run1 [10005] rfl ?_); simp (maxSteps := 2000000) (disch := omega) only [go_sem, ↓reduceIte, reduceCtorEq, Nat.reduceLT, Nat.reducePow, Nat.reduceLeDiff, Nat.reduceAdd, Nat.reduceMul, Nat.reduceSub, Nat.reduceEqDiff, Nat.reduceBEq, Int.reduceToNat, Int.reduceBEq, Int.reduceBNe, ty30, ty34, ty26, ty24, ty22, ty3, ty36, ty85, ty120, ty4, hd, cb, ruleD]; (repeat (first | refine ⟨by omega, ?_⟩ | refine ⟨True.intro, ?_⟩)))))
  refine awp_ownf 5 f rfl (fun i hi => by omega) ?_
  refine awp_ret ?_
  exact retM_one rfl rfl rfl ⟨rfl, rfl⟩
set_option maxRecDepth 100000 in
theorem CloneR_nil (c : Nat) (f : Nat → List Dat) : MCalls Try.prog 40 [.p (.d (.v (.slice none 0 c)))] [] (fun rs M => rs = [.ow 5 0 12 0] ∧ M = [(5, .own 30 12 0 0 f)]) := by
  refine mcalls_of_awp Try.func40 rfl (by decide +kernel) (by rw [Try.ntmps40]; simp) (fun l X h => by simp only [AL.look] at h; (repeat' split at h); all_goals first | omega | cases h) ?_; rw [Try.ntmps40]; simp only [frA]
  (repeat (first | refine awp_seq ?_ | refine awp_yes rfl ?_ | refine awp_no rfl ?_ | refine awp_block ?_ | (refine awp_region fun K hK => ?_) | (refine awp_draw (by kernel_rfl) (by kernel_rfl) fun K hK => ?_) | (refine awp_skip ?_; (first | show AWP _ _ _ _ _ | show loopQ _ _ _ _ _ _ | (simp only [blockQ_n]; first | show AWP _ _ _ _ _ | show loopQ _ _ _ _ _ _))) | (refine awp_exit ?_; (first | show AWP _ _ _ _ _ | show loopQ _ _ _ _ _ _ | (simp only [blockQ_n]; first | show AWP _ _ _ _ _ | show loopQ _ _ _ _ _ _))) | ((first | refine walkS_end (hK _ ?_) | refine walkD_end (hK _ _ (okTrace_spec (by kernel_rfl)) ?_)); clear hK K; (first | show AWP _ _ _ _ _ | show loopQ _ _ _ _ _ _ | (simp only [blockQ_n]; first | show AWP _ _ _ _ _ | show loopQ _ _ _ _ _ _))) | ((first | refine walkS_run1 [10005] rfl ?_ | refine walkD_run1 [10005] rfl ?_); simp (maxSteps := 2000000) (disch := omega) only [go_sem, ↓reduceIte, reduceCtorEq, Nat.reduceLT, Nat.reducePow, Nat.reduceLeDiff, Nat.reduceAdd, Nat.reduceMul, Nat.reduceSub, Nat.reduceEqDiff, Nat.reduceBEq, Int.reduceToNat, Int.reduceBEq, Int.reduceBNe, ty30, ty34, ty26, ty24, ty22, ty3, ty36, ty85, ty120, ty4, hd, cb, ruleD]; (repeat (first | refine ⟨by omega, ?_⟩ | refine ⟨True.intro, ?_⟩)))))
  refine awp_own 2 5 12 30 f rfl (by kernel_rfl) rfl ?_
  refine awp_ret ?_
  exact retM_one rfl rfl rfl ⟨rfl, rfl⟩
theorem ClipR_c (n : Nat) (f : Nat → List Dat) (hn : n ≤ 140737488355328) : ACalls Try.prog 44 [.d (.sl 12 n f)] (· = [.d (.sl 12 n f)]) := by
  refine acalls_of_awp Try.func44 rfl (by decide +kernel) (by rw [Try.ntmps44]; simp) ?_; rw [Try.ntmps44]; simp only [frOf]
  (repeat (first | refine awp_seq ?_ | refine awp_yes rfl ?_ | refine awp_no rfl ?_ | refine awp_block ?_ | (refine awp_region fun K hK => ?_) | (refine awp_draw (by kernel_rfl) (by kernel_rfl) fun K hK => ?_) | (refine awp_skip ?_; (first | show AWP _ _ _ _ _ | show loopQ _ _ _ _ _ _ | (simp only [blockQ_n]; first | show AWP _ _ _ _ _ | show loopQ _ _ _ _ _ _))) | (refine awp_exit ?_; (first | show AWP _ _ _ _ _ | show loopQ _ _ _ _ _ _ | (simp only [blockQ_n]; first | show AWP _ _ _ _ _ | show loopQ _ _ _ _ _ _))) | ((first | refine walkS_end (hK _ ?_) | refine walkD_end (hK _ _ (okTrace_spec (by kernel_rfl)) ?_)); clear hK K; (first | show AWP _ _ _ _ _ | show loopQ _ _ _ _ _ _ | (simp only [blockQ_n]; first | show AWP _ _ _ _ _ | show loopQ _ _ _ _ _ _))) | ((first | refine walkS_run1 [] rfl ?_ | refine walkD_run1 [] rfl ?_); simp (maxSteps := 2000000) (disch := omega) only [go_sem, ↓reduceIte, reduceCtorEq, Nat.reduceLT, Nat.reducePow, Nat.reduceLeDiff, Nat.reduceAdd, Nat.reduceMul, Nat.reduceSub, Nat.reduceEqDiff, Nat.reduceBEq, Int.reduceToNat, Int.reduceBEq, Int.reduceBNe, ty30, ty34, ty26, ty24, ty22, ty3, ty36, ty85, ty120, ty4, hd, cb, ruleD]; (repeat (first | refine ⟨by omega, ?_⟩ | refine ⟨True.intro, ?_⟩)))))
  refine awp_ret ⟨_, ?_, rfl⟩; rw [Try.results44]; simp (disch := omega) only [ResVars, ResVar, ptrLoc, go_sem, ↓reduceIte, reduceCtorEq, Nat.reduceLT, Nat.reducePow, Nat.reduceLeDiff, Nat.reduceAdd, Nat.reduceMul, Nat.reduceSub, Nat.reduceEqDiff, Nat.reduceBEq, Int.reduceToNat, Int.reduceBEq, Int.reduceBNe, ty30, ty34, ty26, ty24, ty22, ty3, ty36, ty85, ty120, ty4, hd, cb, ruleD]
  rfl
def keyR (r : Rule) : Int := -r.pr
def sortR (l : List Rule) : List Rule := isort keyR l
theorem sortR_len (l : List Rule) : (sortR l).length = l.length := isort_length l
theorem cmpR : Cmp Try.prog 42 keyR (fun p q => cmpI q.pr p.pr) where
  call := compare1_c
  lt := fun p q => by
    unfold cmpI keyR
    split
    · constructor <;> intro <;> omega
    · split <;> constructor <;> intro <;> omega
theorem seg_list (l : List Rule) : seg (fun i => l.getD i r0) 0 l.length = l := by
  apply List.ext_getElem
  · simp [seg_length]
  · intro k h1 h2
    simp [seg, h2]
theorem stab_list (l : List Rule) (i : Nat) (hi : i < l.length) : rowF (stab keyR 0 l.length (fun i => l.getD i r0)) i = rowR (sortR l) i := by
  unfold rowF rowR stab
  rw [if_pos ⟨Nat.zero_le _, hi⟩, seg_list]
  have : i < (isort keyR l).length := by rw [isort_length]; exact hi
  unfold sortR
  simp [this]
set_option maxRecDepth 100000 in
theorem SortR_c (l : List Rule) (hl : l.length ≤ 1099511627776) : ACalls Try.prog 16 [.d (.sl 12 l.length (rowR l))] (· = [.d (.sl 12 (sortR l).length (rowR (sortR l)))]) := by
  have hs := stab_list l
  have hlen := sortR_len l
  have cl := ClipR_c (sortR l).length (rowR (sortR l)) (by omega)
  by_cases h : l.length = 0
  · have : l = [] := List.eq_nil_of_length_eq_zero h
    subst this
    refine acalls_empty fun a c => ?_
    cases a with
    | none =>
      have st := SortStable_c cmpR (fun i => ([] : List Rule).getD i r0) 0 0 (by omega)
      refine acalls_of_awp Try.func16 rfl (by decide +kernel) (by rw [Try.ntmps16]; simp) ?_; rw [Try.ntmps16]; simp only [frOf]
      (repeat (first | refine awp_seq ?_ | refine awp_yes rfl ?_ | refine awp_no rfl ?_ | refine awp_block ?_ | (refine awp_region fun K hK => ?_) | (refine awp_draw (by kernel_rfl) (by kernel_rfl) fun K hK => ?_) | (refine awp_skip ?_; (first | show AWP _ _ _ _ _ | show loopQ _ _ _ _ _ _ | (simp only [blockQ_n]; first | show AWP _ _ _ _ _ | show loopQ _ _ _ _ _ _))) | (refine awp_exit ?_; (first | show AWP _ _ _ _ _ | show loopQ _ _ _ _ _ _ | (simp only [blockQ_n]; first | show AWP _ _ _ _ _ | show loopQ _ _ _ _ _ _))) | ((first | refine walkS_end (hK _ ?_) | refine walkD_end (hK _ _ (okTrace_spec (by kernel_rfl)) ?_)); clear hK K; (first | show AWP _ _ _ _ _ | show loopQ _ _ _ _ _ _ | (simp only [blockQ_n]; first | show AWP _ _ _ _ _ | show loopQ _ _ _ _ _ _))) | ((first | refine walkS_run1 [] rfl ?_ | refine walkD_run1 [] rfl ?_); simp (maxSteps := 2000000) (disch := omega) only [go_sem, ↓reduceIte, reduceCtorEq, Nat.reduceLT, Nat.reducePow, Nat.reduceLeDiff, Nat.reduceAdd, Nat.reduceMul, Nat.reduceSub, Nat.reduceEqDiff, Nat.reduceBEq, Int.reduceToNat, Int.reduceBEq, Int.reduceBNe, ty30, ty34, ty26, ty24, ty22, ty3, ty36, ty85, ty120, ty4, hd, cb, ruleD]; (repeat (first | refine ⟨by omega, ?_⟩ | refine ⟨True.intro, ?_⟩)))))
      (refine walkS_cons _ (step_mcall [(5, 5)] rfl rfl rfl rfl rfl rfl (CloneR_nil c (rowF fun i => ([] : List Rule).getD i r0)) rfl (namesOK_of (by repeat (first | exact trivial | refine ⟨rfl, ?_⟩)) (by kernel_rfl))) ?_); simp (maxSteps := 2000000) (disch := omega) only [go_sem, ↓reduceIte, reduceCtorEq, Nat.reduceLT, Nat.reducePow, Nat.reduceLeDiff, Nat.reduceAdd, Nat.reduceMul, Nat.reduceSub, Nat.reduceEqDiff, Nat.reduceBEq, Int.reduceToNat, Int.reduceBEq, Int.reduceBNe, ty30, ty34, ty26, ty24, ty22, ty3, ty36, ty85, ty120, ty4, hd, cb, ruleD]
      (repeat (first | refine awp_seq ?_ | refine awp_yes rfl ?_ | refine awp_no rfl ?_ | refine awp_block ?_ | (refine awp_region fun K hK => ?_) | (refine awp_draw (by kernel_rfl) (by kernel_rfl) fun K hK => ?_) | (refine awp_skip ?_; (first | show AWP _ _ _ _ _ | show loopQ _ _ _ _ _ _ | (simp only [blockQ_n]; first | show AWP _ _ _ _ _ | show loopQ _ _ _ _ _ _))) | (refine awp_exit ?_; (first | show AWP _ _ _ _ _ | show loopQ _ _ _ _ _ _ | (simp only [blockQ_n]; first | show AWP _ _ _ _ _ | show loopQ _ _ _ _ _ _))) | ((first | refine walkS_end (hK _ ?_) | refine walkD_end (hK _ _ (okTrace_spec (by kernel_rfl)) ?_)); clear hK K; (first | show AWP _ _ _ _ _ | show loopQ _ _ _ _ _ _ | (simp only [blockQ_n]; first | show AWP _ _ _ _ _ | show loopQ _ _ _ _ _ _))) | ((first | refine walkS_run1 [] rfl ?_ | refine walkD_run1 [] rfl ?_); simp (maxSteps := 2000000) (disch := omega) only [go_sem, ↓reduceIte, reduceCtorEq, Nat.reduceLT, Nat.reducePow, Nat.reduceLeDiff, Nat.reduceAdd, Nat.reduceMul, Nat.reduceSub, Nat.reduceEqDiff, Nat.reduceBEq, Int.reduceToNat, Int.reduceBEq, Int.reduceBNe, ty30, ty34, ty26, ty24, ty22, ty3, ty36, ty85, ty120, ty4, hd, cb, ruleD]; (repeat (first | refine ⟨by omega, ?_⟩ | refine ⟨True.intro, ?_⟩)))))
      (refine walkS_cons _ (step_mcall [(1000, 5)] rfl rfl rfl rfl rfl rfl (st) rfl (namesOK_of (by repeat (first | exact trivial | refine ⟨rfl, ?_⟩)) (by kernel_rfl))) ?_); simp (maxSteps := 2000000) (disch := omega) only [go_sem, ↓reduceIte, reduceCtorEq, Nat.reduceLT, Nat.reducePow, Nat.reduceLeDiff, Nat.reduceAdd, Nat.reduceMul, Nat.reduceSub, Nat.reduceEqDiff, Nat.reduceBEq, Int.reduceToNat, Int.reduceBEq, Int.reduceBNe, ty30, ty34, ty26, ty24, ty22, ty3, ty36, ty85, ty120, ty4, hd, cb, ruleD]
      (repeat ((fail_if_success (show AWP _ _ (.region 3 _ _) _ _)); first | refine awp_seq ?_ | refine awp_yes rfl ?_ | refine awp_no rfl ?_ | refine awp_block ?_ | (refine awp_region fun K hK => ?_) | (refine awp_draw (by kernel_rfl) (by kernel_rfl) fun K hK => ?_) | (refine awp_skip ?_; (first | show AWP _ _ _ _ _ | show loopQ _ _ _ _ _ _ | (simp only [blockQ_n]; first | show AWP _ _ _ _ _ | show loopQ _ _ _ _ _ _))) | (refine awp_exit ?_; (first | show AWP _ _ _ _ _ | show loopQ _ _ _ _ _ _ | (simp only [blockQ_n]; first | show AWP _ _ _ _ _ | show loopQ _ _ _ _ _ _))) | ((first | refine walkS_end (hK _ ?_) | refine walkD_end (hK _ _ (okTrace_spec (by kernel_rfl)) ?_)); clear hK K; (first | show AWP _ _ _ _ _ | show loopQ _ _ _ _ _ _ | (simp only [blockQ_n]; first | show AWP _ _ _ _ _ | show loopQ _ _ _ _ _ _))) | ((first | refine walkS_run1 [] rfl ?_ | refine walkD_run1 [] rfl ?_); simp (maxSteps := 2000000) (disch := omega) only [go_sem, ↓reduceIte, reduceCtorEq, Nat.reduceLT, Nat.reducePow, Nat.reduceLeDiff, Nat.reduceAdd, Nat.reduceMul, Nat.reduceSub, Nat.reduceEqDiff, Nat.reduceBEq, Int.reduceToNat, Int.reduceBEq, Int.reduceBNe, ty30, ty34, ty26, ty24, ty22, ty3, ty36, ty85, ty120, ty4, hd, cb, ruleD]; (repeat (first | refine ⟨by omega, ?_⟩ | refine ⟨True.intro, ?_⟩)))))
      refine awp_freeze 3 5 0 12 0 30 _ rfl rfl ?_
      refine awp_slot 3 _ (.p (.d (.sl 12 (sortR []).length (rowR (sortR []))))) rfl (le_sl rfl (fun i hi => by omega)) ?_
      (repeat (first | refine awp_seq ?_ | refine awp_yes rfl ?_ | refine awp_no rfl ?_ | refine awp_block ?_ | (refine awp_region fun K hK => ?_) | (refine awp_draw (by kernel_rfl) (by kernel_rfl) fun K hK => ?_) | (refine awp_skip ?_; (first | show AWP _ _ _ _ _ | show loopQ _ _ _ _ _ _ | (simp only [blockQ_n]; first | show AWP _ _ _ _ _ | show loopQ _ _ _ _ _ _))) | (refine awp_exit ?_; (first | show AWP _ _ _ _ _ | show loopQ _ _ _ _ _ _ | (simp only [blockQ_n]; first | show AWP _ _ _ _ _ | show loopQ _ _ _ _ _ _))) | ((first | refine walkS_end (hK _ ?_) | refine walkD_end (hK _ _ (okTrace_spec (by kernel_rfl)) ?_)); clear hK K; (first | show AWP _ _ _ _ _ | show loopQ _ _ _ _ _ _ | (simp only [blockQ_n]; first | show AWP _ _ _ _ _ | show loopQ _ _ _ _ _ _))) | ((first | refine walkS_call3 rfl rfl rfl ?_ | refine walkD_call3 rfl rfl rfl ?_); simp (maxSteps := 2000000) (disch := omega) only [go_sem, ↓reduceIte, reduceCtorEq, Nat.reduceLT, Nat.reducePow, Nat.reduceLeDiff, Nat.reduceAdd, Nat.reduceMul, Nat.reduceSub, Nat.reduceEqDiff, Nat.reduceBEq, Int.reduceToNat, Int.reduceBEq, Int.reduceBNe, ty30, ty34, ty26, ty24, ty22, ty3, ty36, ty85, ty120, ty4, hd, cb, ruleD]; (first | refine ⟨_, cl, ?_⟩)) | ((first | refine walkS_run1 [] rfl ?_ | refine walkD_run1 [] rfl ?_); simp (maxSteps := 2000000) (disch := omega) only [go_sem, ↓reduceIte, reduceCtorEq, Nat.reduceLT, Nat.reducePow, Nat.reduceLeDiff, Nat.reduceAdd, Nat.reduceMul, Nat.reduceSub, Nat.reduceEqDiff, Nat.reduceBEq, Int.reduceToNat, Int.reduceBEq, Int.reduceBNe, ty30, ty34, ty26, ty24, ty22, ty3, ty36, ty85, ty120, ty4, hd, cb, ruleD]; (repeat (first | refine ⟨by omega, ?_⟩ | refine ⟨True.intro, ?_⟩)))))
      refine awp_ret ⟨_, ?_, rfl⟩; rw [Try.results16]; simp (disch := omega) only [ResVars, ResVar, ptrLoc, go_sem, ↓reduceIte, reduceCtorEq, Nat.reduceLT, Nat.reducePow, Nat.reduceLeDiff, Nat.reduceAdd, Nat.reduceMul, Nat.reduceSub, Nat.reduceEqDiff, Nat.reduceBEq, Int.reduceToNat, Int.reduceBEq, Int.reduceBNe, ty30, ty34, ty26, ty24, ty22, ty3, ty36, ty85, ty120, ty4, hd, cb, ruleD]
    | some a =>
      have st := SortStable_c cmpR (fun i => ([] : List Rule).getD i r0) 0 1 (by omega)
      refine acalls_of_awp Try.func16 rfl (by decide +kernel) (by rw [Try.ntmps16]; simp) ?_; rw [Try.ntmps16]; simp only [frOf]
      (repeat (first | refine awp_seq ?_ | refine awp_yes rfl ?_ | refine awp_no rfl ?_ | refine awp_block ?_ | (refine awp_region fun K hK => ?_) | (refine awp_draw (by kernel_rfl) (by kernel_rfl) fun K hK => ?_) | (refine awp_skip ?_; (first | show AWP _ _ _ _ _ | show loopQ _ _ _ _ _ _ | (simp only [blockQ_n]; first | show AWP _ _ _ _ _ | show loopQ _ _ _ _ _ _))) | (refine awp_exit ?_; (first | show AWP _ _ _ _ _ | show loopQ _ _ _ _ _ _ | (simp only [blockQ_n]; first | show AWP _ _ _ _ _ | show loopQ _ _ _ _ _ _))) | ((first | refine walkS_end (hK _ ?_) | refine walkD_end (hK _ _ (okTrace_spec (by kernel_rfl)) ?_)); clear hK K; (first | show AWP _ _ _ _ _ | show loopQ _ _ _ _ _ _ | (simp only [blockQ_n]; first | show AWP _ _ _ _ _ | show loopQ _ _ _ _ _ _))) | ((first | refine walkS_run1 [] rfl ?_ | refine walkD_run1 [] rfl ?_); simp (maxSteps := 2000000) (disch := omega) only [go_sem, ↓reduceIte, reduceCtorEq, Nat.reduceLT, Nat.reducePow, Nat.reduceLeDiff, Nat.reduceAdd, Nat.reduceMul, Nat.reduceSub, Nat.reduceEqDiff, Nat.reduceBEq, Int.reduceToNat, Int.reduceBEq, Int.reduceBNe, ty30, ty34, ty26, ty24, ty22, ty3, ty36, ty85, ty120, ty4, hd, cb, ruleD]; (repeat (first | refine ⟨by omega, ?_⟩ | refine ⟨True.intro, ?_⟩)))))
      (refine walkS_cons _ (step_mcall [(5, 5)] rfl rfl rfl rfl rfl rfl (CloneR_emp a c (rowF fun i => ([] : List Rule).getD i r0)) rfl (namesOK_of (by repeat (first | exact trivial | refine ⟨rfl, ?_⟩)) (by kernel_rfl))) ?_); simp (maxSteps := 2000000) (disch := omega) only [go_sem, ↓reduceIte, reduceCtorEq, Nat.reduceLT, Nat.reducePow, Nat.reduceLeDiff, Nat.reduceAdd, Nat.reduceMul, Nat.reduceSub, Nat.reduceEqDiff, Nat.reduceBEq, Int.reduceToNat, Int.reduceBEq, Int.reduceBNe, ty30, ty34, ty26, ty24, ty22, ty3, ty36, ty85, ty120, ty4, hd, cb, ruleD]
      (repeat (first | refine awp_seq ?_ | refine awp_yes rfl ?_ | refine awp_no rfl ?_ | refine awp_block ?_ | (refine awp_region fun K hK => ?_) | (refine awp_draw (by kernel_rfl) (by kernel_rfl) fun K hK => ?_) | (refine awp_skip ?_; (first | show AWP _ _ _ _ _ | show loopQ _ _ _ _ _ _ | (simp only [blockQ_n]; first | show AWP _ _ _ _ _ | show loopQ _ _ _ _ _ _))) | (refine awp_exit ?_; (first | show AWP _ _ _ _ _ | show loopQ _ _ _ _ _ _ | (simp only [blockQ_n]; first | show AWP _ _ _ _ _ | show loopQ _ _ _ _ _ _))) | ((first | refine walkS_end (hK _ ?_) | refine walkD_end (hK _ _ (okTrace_spec (by kernel_rfl)) ?_)); clear hK K; (first | show AWP _ _ _ _ _ | show loopQ _ _ _ _ _ _ | (simp only [blockQ_n]; first | show AWP _ _ _ _ _ | show loopQ _ _ _ _ _ _))) | ((first | refine walkS_run1 [] rfl ?_ | refine walkD_run1 [] rfl ?_); simp (maxSteps := 2000000) (disch := omega) only [go_sem, ↓reduceIte, reduceCtorEq, Nat.reduceLT, Nat.reducePow, Nat.reduceLeDiff, Nat.reduceAdd, Nat.reduceMul, Nat.reduceSub, Nat.reduceEqDiff, Nat.reduceBEq, Int.reduceToNat, Int.reduceBEq, Int.reduceBNe, ty30, ty34, ty26, ty24, ty22, ty3, ty36, ty85, ty120, ty4, hd, cb, ruleD]; (repeat (first | refine ⟨by omega, ?_⟩ | refine ⟨True.intro, ?_⟩)))))
      (refine walkS_cons _ (step_mcall [(1000, 5)] rfl rfl rfl rfl rfl rfl (st) rfl (namesOK_of (by repeat (first | exact trivial | refine ⟨rfl, ?_⟩)) (by kernel_rfl))) ?_); simp (maxSteps := 2000000) (disch := omega) only [go_sem, ↓reduceIte, reduceCtorEq, Nat.reduceLT, Nat.reducePow, Nat.reduceLeDiff, Nat.reduceAdd, Nat.reduceMul, Nat.reduceSub, Nat.reduceEqDiff, Nat.reduceBEq, Int.reduceToNat, Int.reduceBEq, Int.reduceBNe, ty30, ty34, ty26, ty24, ty22, ty3, ty36, ty85, ty120, ty4, hd, cb, ruleD]
      (repeat ((fail_if_success (show AWP _ _ (.region 3 _ _) _ _)); first | refine awp_seq ?_ | refine awp_yes rfl ?_ | refine awp_no rfl ?_ | refine awp_block ?_ | (refine awp_region fun K hK => ?_) | (refine awp_draw (by kernel_rfl) (by kernel_rfl) fun K hK => ?_) | (refine awp_skip ?_; (first | show AWP _ _ _ _ _ | show loopQ _ _ _ _ _ _ | (simp only [blockQ_n]; first | show AWP _ _ _ _ _ | show loopQ _ _ _ _ _ _))) | (refine awp_exit ?_; (first | show AWP _ _ _ _ _ | show loopQ _ _ _ _ _ _ | (simp only [blockQ_n]; first | show AWP _ _ _ _ _ | show loopQ _ _ _ _ _ _))) | ((first | refine walkS_end (hK _ ?_) | refine walkD_end (hK _ _ (okTrace_spec (by kernel_rfl)) ?_)); clear hK K; (first | show AWP _ _ _ _ _ | show loopQ _ _ _ _ _ _ | (simp only [blockQ_n]; first | show AWP _ _ _ _ _ | show loopQ _ _ _ _ _ _))) | ((first | refine walkS_run1 [] rfl ?_ | refine walkD_run1 [] rfl ?_); simp (maxSteps := 2000000) (disch := omega) only [go_sem, ↓reduceIte, reduceCtorEq, Nat.reduceLT, Nat.reducePow, Nat.reduceLeDiff, Nat.reduceAdd, Nat.reduceMul, Nat.reduceSub, Nat.reduceEqDiff, Nat.reduceBEq, Int.reduceToNat, Int.reduceBEq, Int.reduceBNe, ty30, ty34, ty26, ty24, ty22, ty3, ty36, ty85, ty120, ty4, hd, cb, ruleD]; (repeat (first | refine ⟨by omega, ?_⟩ | refine ⟨True.intro, ?_⟩)))))
      refine awp_freeze 3 5 1 12 0 30 _ rfl rfl ?_
      refine awp_slot 3 _ (.p (.d (.sl 12 (sortR []).length (rowR (sortR []))))) rfl (le_sl rfl (fun i hi => by omega)) ?_
      (repeat (first | refine awp_seq ?_ | refine awp_yes rfl ?_ | refine awp_no rfl ?_ | refine awp_block ?_ | (refine awp_region fun K hK => ?_) | (refine awp_draw (by kernel_rfl) (by kernel_rfl) fun K hK => ?_) | (refine awp_skip ?_; (first | show AWP _ _ _ _ _ | show loopQ _ _ _ _ _ _ | (simp only [blockQ_n]; first | show AWP _ _ _ _ _ | show loopQ _ _ _ _ _ _))) | (refine awp_exit ?_; (first | show AWP _ _ _ _ _ | show loopQ _ _ _ _ _ _ | (simp only [blockQ_n]; first | show AWP _ _ _ _ _ | show loopQ _ _ _ _ _ _))) | ((first | refine walkS_end (hK _ ?_) | refine walkD_end (hK _ _ (okTrace_spec (by kernel_rfl)) ?_)); clear hK K; (first | show AWP _ _ _ _ _ | show loopQ _ _ _ _ _ _ | (simp only [blockQ_n]; first | show AWP _ _ _ _ _ | show loopQ _ _ _ _ _ _))) | ((first | refine walkS_call3 rfl rfl rfl ?_ | refine walkD_call3 rfl rfl rfl ?_); simp (maxSteps := 2000000) (disch := omega) only [go_sem, ↓reduceIte, reduceCtorEq, Nat.reduceLT, Nat.reducePow, Nat.reduceLeDiff, Nat.reduceAdd, Nat.reduceMul, Nat.reduceSub, Nat.reduceEqDiff, Nat.reduceBEq, Int.reduceToNat, Int.reduceBEq, Int.reduceBNe, ty30, ty34, ty26, ty24, ty22, ty3, ty36, ty85, ty120, ty4, hd, cb, ruleD]; (first | refine ⟨_, cl, ?_⟩)) | ((first | refine walkS_run1 [] rfl ?_ | refine walkD_run1 [] rfl ?_); simp (maxSteps := 2000000) (disch := omega) only [go_sem, ↓reduceIte, reduceCtorEq, Nat.reduceLT, Nat.reducePow, Nat.reduceLeDiff, Nat.reduceAdd, Nat.reduceMul, Nat.reduceSub, Nat.reduceEqDiff, Nat.reduceBEq, Int.reduceToNat, Int.reduceBEq, Int.reduceBNe, ty30, ty34, ty26, ty24, ty22, ty3, ty36, ty85, ty120, ty4, hd, cb, ruleD]; (repeat (first | refine ⟨by omega, ?_⟩ | refine ⟨True.intro, ?_⟩)))))
      refine awp_ret ⟨_, ?_, rfl⟩; rw [Try.results16]; simp (disch := omega) only [ResVars, ResVar, ptrLoc, go_sem, ↓reduceIte, reduceCtorEq, Nat.reduceLT, Nat.reducePow, Nat.reduceLeDiff, Nat.reduceAdd, Nat.reduceMul, Nat.reduceSub, Nat.reduceEqDiff, Nat.reduceBEq, Int.reduceToNat, Int.reduceBEq, Int.reduceBNe, ty30, ty34, ty26, ty24, ty22, ty3, ty36, ty85, ty120, ty4, hd, cb, ruleD]
  · have st := SortStable_c cmpR (fun i => l.getD i r0) l.length 1 hl
    refine acalls_of_awp Try.func16 rfl (by decide +kernel) (by rw [Try.ntmps16]; simp) ?_; rw [Try.ntmps16]; simp only [frOf]
    (repeat (first | refine awp_seq ?_ | refine awp_yes rfl ?_ | refine awp_no rfl ?_ | refine awp_block ?_ | (refine awp_region fun K hK => ?_) | (refine awp_draw (by kernel_rfl) (by kernel_rfl) fun K hK => ?_) | (refine awp_skip ?_; (first | show AWP _ _ _ _ _ | show loopQ _ _ _ _ _ _ | (simp only [blockQ_n]; first | show AWP _ _ _ _ _ | show loopQ _ _ _ _ _ _))) | (refine awp_exit ?_; (first | show AWP _ _ _ _ _ | show loopQ _ _ _ _ _ _ | (simp only [blockQ_n]; first | show AWP _ _ _ _ _ | show loopQ _ _ _ _ _ _))) | ((first | refine walkS_end (hK _ ?_) | refine walkD_end (hK _ _ (okTrace_spec (by kernel_rfl)) ?_)); clear hK K; (first | show AWP _ _ _ _ _ | show loopQ _ _ _ _ _ _ | (simp only [blockQ_n]; first | show AWP _ _ _ _ _ | show loopQ _ _ _ _ _ _))) | ((first | refine walkS_run1 [] rfl ?_ | refine walkD_run1 [] rfl ?_); simp (maxSteps := 2000000) (disch := omega) only [go_sem, ↓reduceIte, reduceCtorEq, Nat.reduceLT, Nat.reducePow, Nat.reduceLeDiff, Nat.reduceAdd, Nat.reduceMul, Nat.reduceSub, Nat.reduceEqDiff, Nat.reduceBEq, Int.reduceToNat, Int.reduceBEq, Int.reduceBNe, ty30, ty34, ty26, ty24, ty22, ty3, ty36, ty85, ty120, ty4, hd, cb, ruleD]; (repeat (first | refine ⟨by omega, ?_⟩ | refine ⟨True.intro, ?_⟩)))))
    (refine walkS_cons _ (step_mcall [(5, 5)] rfl rfl rfl rfl rfl rfl (CloneR_some l.length (rowR l) (by omega) hl) rfl (namesOK_of (by repeat (first | exact trivial | refine ⟨rfl, ?_⟩)) (by kernel_rfl))) ?_); simp (maxSteps := 2000000) (disch := omega) only [go_sem, ↓reduceIte, reduceCtorEq, Nat.reduceLT, Nat.reducePow, Nat.reduceLeDiff, Nat.reduceAdd, Nat.reduceMul, Nat.reduceSub, Nat.reduceEqDiff, Nat.reduceBEq, Int.reduceToNat, Int.reduceBEq, Int.reduceBNe, ty30, ty34, ty26, ty24, ty22, ty3, ty36, ty85, ty120, ty4, hd, cb, ruleD]
    (repeat (first | refine awp_seq ?_ | refine awp_yes rfl ?_ | refine awp_no rfl ?_ | refine awp_block ?_ | (refine awp_region fun K hK => ?_) | (refine awp_draw (by kernel_rfl) (by kernel_rfl) fun K hK => ?_) | (refine awp_skip ?_; (first | show AWP _ _ _ _ _ | show loopQ _ _ _ _ _ _ | (simp only [blockQ_n]; first | show AWP _ _ _ _ _ | show loopQ _ _ _ _ _ _))) | (refine awp_exit ?_; (first | show AWP _ _ _ _ _ | show loopQ _ _ _ _ _ _ | (simp only [blockQ_n]; first | show AWP _ _ _ _ _ | show loopQ _ _ _ _ _ _))) | ((first | refine walkS_end (hK _ ?_) | refine walkD_end (hK _ _ (okTrace_spec (by kernel_rfl)) ?_)); clear hK K; (first | show AWP _ _ _ _ _ | show loopQ _ _ _ _ _ _ | (simp only [blockQ_n]; first | show AWP _ _ _ _ _ | show loopQ _ _ _ _ _ _))) | ((first | refine walkS_run1 [] rfl ?_ | refine walkD_run1 [] rfl ?_); simp (maxSteps := 2000000) (disch := omega) only [go_sem, ↓reduceIte, reduceCtorEq, Nat.reduceLT, Nat.reducePow, Nat.reduceLeDiff, Nat.reduceAdd, Nat.reduceMul, Nat.reduceSub, Nat.reduceEqDiff, Nat.reduceBEq, Int.reduceToNat, Int.reduceBEq, Int.reduceBNe, ty30, ty34, ty26, ty24, ty22, ty3, ty36, ty85, ty120, ty4, hd, cb, ruleD]; (repeat (first | refine ⟨by omega, ?_⟩ | refine ⟨True.intro, ?_⟩)))))
    (refine walkS_cons _ (step_mcall [(1000, 5)] rfl rfl rfl rfl rfl rfl (st) rfl (namesOK_of (by repeat (first | exact trivial | refine ⟨rfl, ?_⟩)) (by kernel_rfl))) ?_); simp (maxSteps := 2000000) (disch := omega) only [go_sem, ↓reduceIte, reduceCtorEq, Nat.reduceLT, Nat.reducePow, Nat.reduceLeDiff, Nat.reduceAdd, Nat.reduceMul, Nat.reduceSub, Nat.reduceEqDiff, Nat.reduceBEq, Int.reduceToNat, Int.reduceBEq, Int.reduceBNe, ty30, ty34, ty26, ty24, ty22, ty3, ty36, ty85, ty120, ty4, hd, cb, ruleD]
    (repeat ((fail_if_success (show AWP _ _ (.region 3 _ _) _ _)); first | refine awp_seq ?_ | refine awp_yes rfl ?_ | refine awp_no rfl ?_ | refine awp_block ?_ | (refine awp_region fun K hK => ?_) | (refine awp_draw (by kernel_rfl) (by kernel_rfl) fun K hK => ?_) | (refine awp_skip ?_; (first | show AWP _ _ _ _ _ | show loopQ _ _ _ _ _ _ | (simp only [blockQ_n]; first | show AWP _ _ _ _ _ | show loopQ _ _ _ _ _ _))) | (refine awp_exit ?_; (first | show AWP _ _ _ _ _ | show loopQ _ _ _ _ _ _ | (simp only [blockQ_n]; first | show AWP _ _ _ _ _ | show loopQ _ _ _ _ _ _))) | ((first | refine walkS_end (hK _ ?_) | refine walkD_end (hK _ _ (okTrace_spec (by kernel_rfl)) ?_)); clear hK K; (first | show AWP _ _ _ _ _ | show loopQ _ _ _ _ _ _ | (simp only [blockQ_n]; first | show AWP _ _ _ _ _ | show loopQ _ _ _ _ _ _))) | ((first | refine walkS_run1 [] rfl ?_ | refine walkD_run1 [] rfl ?_); simp (maxSteps := 2000000) (disch := omega) only [go_sem, ↓reduceIte, reduceCtorEq, Nat.reduceLT, Nat.reducePow, Nat.reduceLeDiff, Nat.reduceAdd, Nat.reduceMul, Nat.reduceSub, Nat.reduceEqDiff, Nat.reduceBEq, Int.reduceToNat, Int.reduceBEq, Int.reduceBNe, ty30, ty34, ty26, ty24, ty22, ty3, ty36, ty85, ty120, ty4, hd, cb, ruleD]; (repeat (first | refine ⟨by omega, ?_⟩ | refine ⟨True.intro, ?_⟩)))))
    refine awp_freeze 3 5 1 12 l.length 30 _ rfl rfl ?_
    refine awp_slot 3 _ (.p (.d (.sl 12 (sortR l).length (rowR (sortR l))))) rfl (le_sl hlen.symm hs) ?_
    (repeat (first | refine awp_seq ?_ | refine awp_yes rfl ?_ | refine awp_no rfl ?_ | refine awp_block ?_ | (refine awp_region fun K hK => ?_) | (refine awp_draw (by kernel_rfl) (by kernel_rfl) fun K hK => ?_) | (refine awp_skip ?_; (first | show AWP _ _ _ _ _ | show loopQ _ _ _ _ _ _ | (simp only [blockQ_n]; first | show AWP _ _ _ _ _ | show loopQ _ _ _ _ _ _))) | (refine awp_exit ?_; (first | show AWP _ _ _ _ _ | show loopQ _ _ _ _ _ _ | (simp only [blockQ_n]; first | show AWP _ _ _ _ _ | show loopQ _ _ _ _ _ _))) | ((first | refine walkS_end (hK _ ?_) | refine walkD_end (hK _ _ (okTrace_spec (by kernel_rfl)) ?_)); clear hK K; (first | show AWP _ _ _ _ _ | show loopQ _ _ _ _ _ _ | (simp only [blockQ_n]; first | show AWP _ _ _ _ _ | show loopQ _ _ _ _ _ _))) | ((first | refine walkS_call3 rfl rfl rfl ?_ | refine walkD_call3 rfl rfl rfl ?_); simp (maxSteps := 2000000) (disch := omega) only [go_sem, ↓reduceIte, reduceCtorEq, Nat.reduceLT, Nat.reducePow, Nat.reduceLeDiff, Nat.reduceAdd, Nat.reduceMul, Nat.reduceSub, Nat.reduceEqDiff, Nat.reduceBEq, Int.reduceToNat, Int.reduceBEq, Int.reduceBNe, ty30, ty34, ty26, ty24, ty22, ty3, ty36, ty85, ty120, ty4, hd, cb, ruleD]; (first | refine ⟨_, cl, ?_⟩)) | ((first | refine walkS_run1 [] rfl ?_ | refine walkD_run1 [] rfl ?_); simp (maxSteps := 2000000) (disch := omega) only [go_sem, ↓reduceIte, reduceCtorEq, Nat.reduceLT, Nat.reducePow, Nat.reduceLeDiff, Nat.reduceAdd, Nat.reduceMul, Nat.reduceSub, Nat.reduceEqDiff, Nat.reduceBEq, Int.reduceToNat, Int.reduceBEq, Int.reduceBNe, ty30, ty34, ty26, ty24, ty22, ty3, ty36, ty85, ty120, ty4, hd, cb, ruleD]; (repeat (first | refine ⟨by omega, ?_⟩ | refine ⟨True.intro, ?_⟩)))))
    refine awp_ret ⟨_, ?_, rfl⟩; rw [Try.results16]; simp (disch := omega) only [ResVars, ResVar, ptrLoc, go_sem, ↓reduceIte, reduceCtorEq, Nat.reduceLT, Nat.reducePow, Nat.reduceLeDiff, Nat.reduceAdd, Nat.reduceMul, Nat.reduceSub, Nat.reduceEqDiff, Nat.reduceBEq, Int.reduceToNat, Int.reduceBEq, Int.reduceBNe, ty30, ty34, ty26, ty24, ty22, ty3, ty36, ty85, ty120, ty4, hd, cb, ruleD]
/-! ### Order -/
/-- the first of the greatest among those that are not used, below i -/
def bestTo (u : Nat → Bool) (x : Nat → Rule) : Nat → Option Nat
  | 0 => none
  | i + 1 => match bestTo u x i with
    | none => if u i then none else some i
    | some b => if u i then some b else if (x b).pr < (x i).pr then some i else some b
theorem bestTo_spec (u : Nat → Bool) (x : Nat → Rule) : ∀ i, match bestTo u x i with
    | none => ∀ q, q < i → u q = true
    | some p => p < i ∧ u p = false ∧ ∀ q, q < i → u q = false → (x q).pr ≤ (x p).pr ∧ (q < p → (x q).pr < (x p).pr)
  | 0 => fun q h => by omega
  | i + 1 => by
    have ih := bestTo_spec u x i
    unfold bestTo
    cases hb : bestTo u x i with
    | none =>
      rw [hb] at ih
      cases hu : u i
      · simp only [Bool.false_eq_true, if_false]
        refine ⟨by omega, hu, fun q hq hq2 => ?_⟩
        have : q = i := by
          refine Classical.byContradiction fun hne => ?_
          have := ih q (by omega)
          rw [hq2] at this; cases this
        subst this
        exact ⟨Int.le_refl _, fun h => by omega⟩
      · simp only [if_true]
        intro q hq
        by_cases h : q = i
        · rw [h]; exact hu
        · exact ih q (by omega)
    | some b =>
      rw [hb] at ih
      obtain ⟨h1, h2, h3⟩ := ih
      cases hu : u i
      · simp only [Bool.false_eq_true, if_false]
        split
        · rename_i p hp
          split at hp <;> cases hp
        · rename_i p hp
          split at hp
          · rename_i hlt
            cases hp
            refine ⟨by omega, hu, fun q hq hq2 => ?_⟩
            by_cases h : q = i
            · subst h; exact ⟨Int.le_refl _, fun h => by omega⟩
            · have := (h3 q (by omega) hq2).1
              exact ⟨by omega, fun _ => by omega⟩
          · rename_i hlt
            cases hp
            refine ⟨by omega, h2, fun q hq hq2 => ?_⟩
            by_cases h : q = i
            · subst h; exact ⟨by omega, fun h => by omega⟩
            · exact h3 q (by omega) hq2
      · simp only [if_true]
        refine ⟨by omega, h2, fun q hq hq2 => ?_⟩
        by_cases h : q = i
        · subst h; rw [hu] at hq2; cases hq2
        · exact h3 q (by omega) hq2
/-- the numbers below n that are not in a list -/
def rem (n : Nat) (out : List Nat) : List Nat := (List.range n).filter fun i => !out.contains i
theorem isort_pick {α : Type} {key : α → Int} (x : Nat → α) {r : List Nat} {p : Nat} (hr : r.Pairwise (· < ·)) (hp : p ∈ r) (hmin : ∀ q ∈ r, key (x p) ≤ key (x q) ∧ (q < p → key (x p) < key (x q))) :
    isort key (r.map x) = x p :: isort key ((r.filter (· != p)).map x) := by
  obtain ⟨r1, r2, rfl⟩ := List.append_of_mem hp
  have ⟨q1, q2, q3⟩ := List.pairwise_append.1 hr
  have q4 := List.pairwise_cons.1 q2
  have n1 : ∀ q ∈ r1, q < p := fun q hq => q3 q hq p (by simp)
  have n2 : ∀ q ∈ r2, p < q := fun q hq => q4.1 q hq
  have hf : (r1 ++ p :: r2).filter (· != p) = r1 ++ r2 := by
    rw [List.filter_append, List.filter_cons]
    simp only [bne_self_eq_false, Bool.false_eq_true, if_false]
    rw [List.filter_eq_self.2 fun q hq => by have := n1 q hq; simp; omega, List.filter_eq_self.2 fun q hq => by have := n2 q hq; simp; omega]
  rw [hf]
  refine filter_unique (isort_sorted _) (List.pairwise_cons.2 ⟨fun e he => ?_, isort_sorted _⟩) fun k => ?_
  · have : e ∈ (isort key ((r1 ++ r2).map x)).filter (fun z => key z == key e) := List.mem_filter.2 ⟨he, by simp⟩
    rw [isort_filter] at this
    obtain ⟨q, hq, rfl⟩ := List.mem_map.1 (List.mem_filter.1 this).1
    refine (hmin q ?_).1
    rcases List.mem_append.1 hq with h | h
    · simp [h]
    · simp [h]
  · rw [isort_filter, List.filter_cons, isort_filter]
    simp only [List.map_append, List.map_cons, List.filter_append, List.filter_cons]
    by_cases hk : key (x p) = k
    · have : (r1.map x).filter (fun e => key e == k) = [] := by
        rw [List.filter_eq_nil_iff]
        intro e he hk2
        obtain ⟨q, hq, rfl⟩ := List.mem_map.1 he
        have := (hmin q (by simp [hq])).2 (n1 q hq)
        have := beq_iff_eq.1 hk2
        omega
      rw [this]; simp [hk]
    · simp [hk]
theorem rem_step {n : Nat} {out : List Nat} {p : Nat} : rem n (out ++ [p]) = (rem n out).filter (· != p) := by
  unfold rem
  rw [List.filter_filter]
  refine List.filter_congr fun i hi => ?_
  simp only [List.contains_append, List.contains_cons, List.contains_nil, Bool.or_false]
  cases out.contains i <;> simp [bne]
theorem rem_mem {n : Nat} {out : List Nat} {i : Nat} : i ∈ rem n out ↔ i < n ∧ i ∉ out := by
  unfold rem
  rw [List.mem_filter, List.mem_range]
  simp
theorem rem_len {n : Nat} : ∀ {r : List Nat} {p : Nat}, r.Pairwise (· < ·) → p ∈ r → (r.filter (· != p)).length + 1 = r.length
  | [], p, _, h => by cases h
  | q :: r, p, h, hp => by
    have ⟨h1, h2⟩ := List.pairwise_cons.1 h
    rw [List.filter_cons]
    rcases List.mem_cons.1 hp with rfl | hp
    · simp only [bne_self_eq_false, Bool.false_eq_true, if_false]
      rw [List.filter_eq_self.2 fun q hq => by have := h1 q hq; simp; omega]; rfl
    · have := h1 p hp
      have hq : (q != p) = true := by simp; omega
      rw [if_pos hq, List.length_cons, List.length_cons, rem_len (n := n) h2 hp]
theorem rem_sorted (n : Nat) (out : List Nat) : (rem n out).Pairwise (· < ·) := List.Pairwise.filter _ List.pairwise_lt_range
/-- What Order has, and what is left. -/
structure Ord (l : List Rule) (out : List Nat) : Prop where
  lt : ∀ i ∈ out, i < l.length
  len : out.length + (rem l.length out).length = l.length
  eq : out.map (fun i => l.getD i r0) ++ sortR ((rem l.length out).map fun i => l.getD i r0) = sortR l
theorem Ord.start (l : List Rule) : Ord l [] := by
  have e : rem l.length [] = List.range l.length := by unfold rem; exact List.filter_eq_self.2 fun _ _ => rfl
  refine ⟨fun i h => (by cases h), by rw [e]; simp, ?_⟩
  rw [e]
  have : (List.range l.length).map (fun i => l.getD i r0) = l := by
    apply List.ext_getElem
    · simp
    · intro k h1 h2; simp [h2]
  rw [this]; rfl
theorem Ord.step {l : List Rule} {out : List Nat} (h : Ord l out) (hlt : out.length < l.length) : ∃ p, bestTo (fun i => out.contains i) (fun i => l.getD i r0) l.length = some p ∧ p < l.length ∧ p ∉ out ∧ Ord l (out ++ [p]) := by
  have sp := bestTo_spec (fun i => out.contains i) (fun i => l.getD i r0) l.length
  cases hb : bestTo (fun i => out.contains i) (fun i => l.getD i r0) l.length with
  | none =>
    rw [hb] at sp
    have : rem l.length out = [] := by
      rw [List.eq_nil_iff_forall_not_mem]
      intro i hi
      obtain ⟨h1, h2⟩ := rem_mem.1 hi
      have := sp i h1
      simp at this
      exact h2 this
    have := h.len
    rw [‹rem l.length out = []›] at this
    simp at this
    omega
  | some p =>
    rw [hb] at sp
    obtain ⟨h1, h2, h3⟩ := sp
    have hno : p ∉ out := by simpa using h2
    have hp : p ∈ rem l.length out := rem_mem.2 ⟨h1, hno⟩
    refine ⟨p, rfl, h1, hno, ⟨fun i hi => ?_, ?_, ?_⟩⟩
    · rcases List.mem_append.1 hi with hi | hi
      · exact h.lt i hi
      · simp at hi; subst hi; exact h1
    · rw [rem_step, List.length_append]
      have := rem_len (n := l.length) (rem_sorted l.length out) hp
      have := h.len
      simp; omega
    · rw [rem_step, ← h.eq, List.map_append, List.append_assoc]
      congr 1
      unfold sortR
      rw [isort_pick (key := keyR) (fun i => l.getD i r0) (rem_sorted l.length out) hp fun q hq => ?_]
      · rfl
      · obtain ⟨q1, q2⟩ := rem_mem.1 hq
        have := h3 q q1 (by simpa using q2)
        unfold keyR
        exact ⟨by have := this.1; omega, fun hlt => by have := this.2 hlt; omega⟩
theorem Ord.done {l : List Rule} {out : List Nat} (h : Ord l out) (hl : ¬ out.length < l.length) : out.length = l.length ∧ out.map (fun i => l.getD i r0) = sortR l := by
  have := h.len
  have e : rem l.length out = [] := List.eq_nil_of_length_eq_zero (by omega)
  refine ⟨by omega, ?_⟩
  have := h.eq
  rw [e] at this
  simpa [sortR, isort] using this
def rowI (l : List Nat) : Nat → List Dat := fun i => [.v (.int .i64 ((l.getD i 0 : Nat) : Int))]
theorem rowI_at (l : List Nat) (i : Nat) : rowI l i = [.v (.int .i64 ((l.getD i 0 : Nat) : Int))] := rfl
theorem rowI_put (out : List Nat) (c : Nat) (i : Nat) (hlt : i < out.length + 1) : catF out.length (rowI out) (fun i => [[Dat.v (.int .i64 (c : Int))]].getD i []) i = rowI (out ++ [c]) i := by
  unfold catF rowI
  simp only [List.getD_eq_getElem?_getD]
  split
  · rw [List.getElem?_append_left (by assumption)]
  · have : i = out.length := by omega
    subst this
    simp
def ordTo (l : List Rule) : Nat → List Nat
  | 0 => []
  | k + 1 => match bestTo (fun i => (ordTo l k).contains i) (fun i => l.getD i r0) l.length with
    | some p => ordTo l k ++ [p]
    | none => ordTo l k
theorem ordTo_ord (l : List Rule) : ∀ k, k ≤ l.length → Ord l (ordTo l k) ∧ (ordTo l k).length = k
  | 0, _ => ⟨Ord.start l, rfl⟩
  | k + 1, hk => by
    obtain ⟨h1, h2⟩ := ordTo_ord l k (by omega)
    obtain ⟨p, e, _, _, h3⟩ := h1.step (by omega)
    unfold ordTo
    rw [e]
    exact ⟨h3, by simp [h2]⟩
def orderR (l : List Rule) : List Nat := ordTo l l.length
def ordI (l : List Rule) (k : Fin (l.length + 1)) : ASt :=
  ⟨[(4, .row 10 1 0 l.length), (3, .gr 7 k.val 1 k.val (rowI (ordTo l k.val))), (0, .p (.d (.sl 12 l.length (rowR l))))],
   [(7, .grow 3 1 k.val k.val), (10, .arr 4 l.length fun i => .v (.bool ((ordTo l k.val).contains i)))]⟩
def bestI (b : Option Nat) : Int := match b with
  | none => -1
  | some p => (p : Int)
def ordJ (l : List Rule) (k : Nat) (s : {i : Nat // i ≤ l.length}) : ASt :=
  ⟨[(6, .p (.d (.v (.int .i64 (s.val : Int))))), (5, .p (.d (.v (.int .i64 (bestI (bestTo (fun i => (ordTo l k).contains i) (fun i => l.getD i r0) s.val)))))), (4, .row 10 1 0 l.length), (3, .gr 7 k 1 k (rowI (ordTo l k))), (0, .p (.d (.sl 12 l.length (rowR l))))],
   [(7, .grow 3 1 k k), (10, .arr 4 l.length fun i => .v (.bool ((ordTo l k).contains i)))]⟩
theorem bestTo_succ (u : Nat → Bool) (x : Nat → Rule) (i : Nat) : bestTo u x (i + 1) = match bestTo u x i with
    | none => if u i then none else some i
    | some b => if u i then some b else if (x b).pr < (x i).pr then some i else some b := rfl
set_option maxRecDepth 100000 in
set_option maxHeartbeats 4000000 in
theorem Order_c (l : List Rule) (hl : l.length ≤ 1099511627776) : ACalls Try.prog 17 [.d (.sl 12 l.length (rowR l))] (· = [.d (.sl 1 l.length (rowI (orderR l)))]) := by
  refine acalls_of_awp Try.func17 rfl (by decide +kernel) (by rw [Try.ntmps17]; simp) ?_; rw [Try.ntmps17]; simp only [frOf]
  (repeat (first | refine awp_seq ?_ | refine awp_yes rfl ?_ | refine awp_no rfl ?_ | refine awp_block ?_ | (refine awp_region fun K hK => ?_) | (refine awp_draw (by kernel_rfl) (by kernel_rfl) fun K hK => ?_) | (refine awp_skip ?_; (first | show AWP _ _ _ _ _ | show loopQ _ _ _ _ _ _ | (simp only [blockQ_n]; first | show AWP _ _ _ _ _ | show loopQ _ _ _ _ _ _))) | (refine awp_exit ?_; (first | show AWP _ _ _ _ _ | show loopQ _ _ _ _ _ _ | (simp only [blockQ_n]; first | show AWP _ _ _ _ _ | show loopQ _ _ _ _ _ _))) | ((first | refine walkS_end (hK _ ?_) | refine walkD_end (hK _ _ (okTrace_spec (by kernel_rfl)) ?_)); clear hK K; (first | show AWP _ _ _ _ _ | show loopQ _ _ _ _ _ _ | (simp only [blockQ_n]; first | show AWP _ _ _ _ _ | show loopQ _ _ _ _ _ _))) | ((first | refine walkS_run1 [7] rfl ?_ | refine walkD_run1 [7] rfl ?_); simp (maxSteps := 2000000) (disch := omega) only [go_sem, ↓reduceIte, reduceCtorEq, Nat.reduceLT, Nat.reducePow, Nat.reduceLeDiff, Nat.reduceAdd, Nat.reduceMul, Nat.reduceSub, Nat.reduceEqDiff, Nat.reduceBEq, Int.reduceToNat, Int.reduceBEq, Int.reduceBNe, ty30, ty34, ty26, ty24, ty22, ty3, ty36, ty85, ty120, ty4, hd, cb, ruleD]; (repeat (first | refine ⟨by omega, ?_⟩ | refine ⟨True.intro, ?_⟩)))))
  refine awp_loop (ordI l) (fun k => l.length - k.val) ⟨0, by omega⟩ ?_ (fun s => ?_)
  · unfold ordI
    refine Weak.list ?_ ?_; (all_goals simp (disch := omega) only [AllF, AllL, le_self, le_top, lle_self, exists_eq_left', Option.some.injEq, go_sem, ↓reduceIte, reduceCtorEq, Nat.reduceLT, Nat.reducePow, Nat.reduceLeDiff, Nat.reduceAdd, Nat.reduceMul, Nat.reduceSub, Nat.reduceEqDiff, Nat.reduceBEq, Int.reduceToNat, Int.reduceBEq, Int.reduceBNe, ty30, ty34, ty26, ty24, ty22, ty3, ty36, ty85, ty120, ty4, hd, cb, ruleD]); (all_goals (repeat' (with_reducible apply And.intro))); (all_goals try (first | exact le_eq rfl | (refine le_int ?_; omega) | (refine le_eq ?_; simp; done)))
    · exact le_grgr rfl rfl (fun i hi => by omega)
    · exact lle_arr (fun i hi => by simp [ordTo])
  obtain ⟨k, hk⟩ := s
  obtain ⟨ho, hlen⟩ := ordTo_ord l k (by omega)
  unfold ordI
  by_cases h : k < l.length
  · obtain ⟨p, hp, hpl, hpn, hstep⟩ := ho.step (by omega)
    (repeat (first | refine awp_seq ?_ | refine awp_yes rfl ?_ | refine awp_no rfl ?_ | refine awp_block ?_ | (refine awp_region fun K hK => ?_) | (refine awp_draw (by kernel_rfl) (by kernel_rfl) fun K hK => ?_) | (refine awp_skip ?_; (first | show AWP _ _ _ _ _ | show loopQ _ _ _ _ _ _ | (simp only [blockQ_n]; first | show AWP _ _ _ _ _ | show loopQ _ _ _ _ _ _))) | (refine awp_exit ?_; (first | show AWP _ _ _ _ _ | show loopQ _ _ _ _ _ _ | (simp only [blockQ_n]; first | show AWP _ _ _ _ _ | show loopQ _ _ _ _ _ _))) | ((first | refine walkS_end (hK _ ?_) | refine walkD_end (hK _ _ (okTrace_spec (by kernel_rfl)) ?_)); clear hK K; (first | show AWP _ _ _ _ _ | show loopQ _ _ _ _ _ _ | (simp only [blockQ_n]; first | show AWP _ _ _ _ _ | show loopQ _ _ _ _ _ _))) | ((first | refine walkS_run1 [7] rfl ?_ | refine walkD_run1 [7] rfl ?_); simp (maxSteps := 2000000) (disch := omega) only [go_sem, ↓reduceIte, reduceCtorEq, Nat.reduceLT, Nat.reducePow, Nat.reduceLeDiff, Nat.reduceAdd, Nat.reduceMul, Nat.reduceSub, Nat.reduceEqDiff, Nat.reduceBEq, Int.reduceToNat, Int.reduceBEq, Int.reduceBNe, ty30, ty34, ty26, ty24, ty22, ty3, ty36, ty85, ty120, ty4, hd, cb, ruleD]; (repeat (first | refine ⟨by omega, ?_⟩ | refine ⟨True.intro, ?_⟩)))))
    refine awp_loop (ordJ l k) (fun s => l.length - s.val) ⟨0, by omega⟩ ?_ (fun s => ?_)
    · unfold ordJ
      refine Weak.list ?_ ?_; (all_goals simp (disch := omega) only [AllF, AllL, le_self, le_top, lle_self, exists_eq_left', Option.some.injEq, go_sem, ↓reduceIte, reduceCtorEq, Nat.reduceLT, Nat.reducePow, Nat.reduceLeDiff, Nat.reduceAdd, Nat.reduceMul, Nat.reduceSub, Nat.reduceEqDiff, Nat.reduceBEq, Int.reduceToNat, Int.reduceBEq, Int.reduceBNe, ty30, ty34, ty26, ty24, ty22, ty3, ty36, ty85, ty120, ty4, hd, cb, ruleD]); (all_goals (repeat' (with_reducible apply And.intro))); (all_goals try (first | exact le_eq rfl | (refine le_int ?_; omega) | (refine le_eq ?_; simp; done)))
    obtain ⟨i, hi⟩ := s
    unfold ordJ
    by_cases hin : i < l.length
    · have bs := bestTo_succ (fun i => (ordTo l k).contains i) (fun i => l.getD i r0) i
      have sp := bestTo_spec (fun i => (ordTo l k).contains i) (fun i => l.getD i r0) i
      have r1 := rowR_at l i
      generalize hX : l.getD i r0 = X at r1 bs
      generalize hu : (ordTo l k).contains i = u at bs
      cases hb : bestTo (fun i => (ordTo l k).contains i) (fun i => l.getD i r0) i with
      | none =>
        rw [hb] at bs
        cases u
        all_goals
          simp only [Bool.false_eq_true, if_false, if_true] at bs
          (repeat (first | refine awp_seq ?_ | refine awp_yes rfl ?_ | refine awp_no rfl ?_ | refine awp_block ?_ | (refine awp_region fun K hK => ?_) | (refine awp_draw (by kernel_rfl) (by kernel_rfl) fun K hK => ?_) | (refine awp_skip ?_; (first | show AWP _ _ _ _ _ | show loopQ _ _ _ _ _ _ | (simp only [blockQ_n]; first | show AWP _ _ _ _ _ | show loopQ _ _ _ _ _ _))) | (refine awp_exit ?_; (first | show AWP _ _ _ _ _ | show loopQ _ _ _ _ _ _ | (simp only [blockQ_n]; first | show AWP _ _ _ _ _ | show loopQ _ _ _ _ _ _))) | ((first | refine walkS_end (hK _ ?_) | refine walkD_end (hK _ _ (okTrace_spec (by kernel_rfl)) ?_)); clear hK K; (first | show AWP _ _ _ _ _ | show loopQ _ _ _ _ _ _ | (simp only [blockQ_n]; first | show AWP _ _ _ _ _ | show loopQ _ _ _ _ _ _))) | ((first | refine walkS_run1 [7] rfl ?_ | refine walkD_run1 [7] rfl ?_); simp (maxSteps := 2000000) (disch := omega) only [go_sem, ↓reduceIte, reduceCtorEq, Nat.reduceLT, Nat.reducePow, Nat.reduceLeDiff, Nat.reduceAdd, Nat.reduceMul, Nat.reduceSub, Nat.reduceEqDiff, Nat.reduceBEq, Int.reduceToNat, Int.reduceBEq, Int.reduceBNe, ty30, ty34, ty26, ty24, ty22, ty3, ty36, ty85, ty120, ty4, hd, cb, ruleD, r1, hu, bestI]; (repeat (first | refine ⟨by omega, ?_⟩ | refine ⟨True.intro, ?_⟩)))))
          refine ⟨⟨i + 1, by omega⟩, by simp only []; omega, ?_⟩
          refine Weak.list ?_ ?_; (all_goals simp (disch := omega) only [AllF, AllL, le_self, le_top, lle_self, exists_eq_left', Option.some.injEq, go_sem, ↓reduceIte, reduceCtorEq, Nat.reduceLT, Nat.reducePow, Nat.reduceLeDiff, Nat.reduceAdd, Nat.reduceMul, Nat.reduceSub, Nat.reduceEqDiff, Nat.reduceBEq, Int.reduceToNat, Int.reduceBEq, Int.reduceBNe, ty30, ty34, ty26, ty24, ty22, ty3, ty36, ty85, ty120, ty4, hd, cb, ruleD, bs, bestI]); (all_goals (repeat' (with_reducible apply And.intro))); (all_goals try (first | exact le_eq rfl | (refine le_int ?_; omega) | (refine le_eq ?_; simp; done)))
      | some q =>
        rw [hb] at bs sp
        obtain ⟨q1, _, _⟩ := sp
        have r2 := rowR_at l q
        have hY : (fun i => l.getD i r0) q = l.getD q r0 := rfl
        simp only [hY] at bs
        generalize l.getD q r0 = Y at r2 bs
        cases u
        · simp only [Bool.false_eq_true, if_false] at bs
          by_cases hlt : Y.pr < X.pr
          · rw [if_pos hlt] at bs
            (repeat (first | refine awp_seq ?_ | refine awp_yes rfl ?_ | refine awp_no rfl ?_ | refine awp_block ?_ | (refine awp_region fun K hK => ?_) | (refine awp_draw (by kernel_rfl) (by kernel_rfl) fun K hK => ?_) | (refine awp_skip ?_; (first | show AWP _ _ _ _ _ | show loopQ _ _ _ _ _ _ | (simp only [blockQ_n]; first | show AWP _ _ _ _ _ | show loopQ _ _ _ _ _ _))) | (refine awp_exit ?_; (first | show AWP _ _ _ _ _ | show loopQ _ _ _ _ _ _ | (simp only [blockQ_n]; first | show AWP _ _ _ _ _ | show loopQ _ _ _ _ _ _))) | ((first | refine walkS_end (hK _ ?_) | refine walkD_end (hK _ _ (okTrace_spec (by kernel_rfl)) ?_)); clear hK K; (first | show AWP _ _ _ _ _ | show loopQ _ _ _ _ _ _ | (simp only [blockQ_n]; first | show AWP _ _ _ _ _ | show loopQ _ _ _ _ _ _))) | ((first | refine walkS_run1 [7] rfl ?_ | refine walkD_run1 [7] rfl ?_); simp (maxSteps := 2000000) (disch := omega) only [go_sem, ↓reduceIte, reduceCtorEq, Nat.reduceLT, Nat.reducePow, Nat.reduceLeDiff, Nat.reduceAdd, Nat.reduceMul, Nat.reduceSub, Nat.reduceEqDiff, Nat.reduceBEq, Int.reduceToNat, Int.reduceBEq, Int.reduceBNe, ty30, ty34, ty26, ty24, ty22, ty3, ty36, ty85, ty120, ty4, hd, cb, ruleD, r1, r2, hu, bestI]; (repeat (first | refine ⟨by omega, ?_⟩ | refine ⟨True.intro, ?_⟩)))))
            refine ⟨⟨i + 1, by omega⟩, by simp only []; omega, ?_⟩
            refine Weak.list ?_ ?_; (all_goals simp (disch := omega) only [AllF, AllL, le_self, le_top, lle_self, exists_eq_left', Option.some.injEq, go_sem, ↓reduceIte, reduceCtorEq, Nat.reduceLT, Nat.reducePow, Nat.reduceLeDiff, Nat.reduceAdd, Nat.reduceMul, Nat.reduceSub, Nat.reduceEqDiff, Nat.reduceBEq, Int.reduceToNat, Int.reduceBEq, Int.reduceBNe, ty30, ty34, ty26, ty24, ty22, ty3, ty36, ty85, ty120, ty4, hd, cb, ruleD, bs, bestI]); (all_goals (repeat' (with_reducible apply And.intro))); (all_goals try (first | exact le_eq rfl | (refine le_int ?_; omega) | (refine le_eq ?_; simp; done)))
          · rw [if_neg hlt] at bs
            (repeat (first | refine awp_seq ?_ | refine awp_yes rfl ?_ | refine awp_no rfl ?_ | refine awp_block ?_ | (refine awp_region fun K hK => ?_) | (refine awp_draw (by kernel_rfl) (by kernel_rfl) fun K hK => ?_) | (refine awp_skip ?_; (first | show AWP _ _ _ _ _ | show loopQ _ _ _ _ _ _ | (simp only [blockQ_n]; first | show AWP _ _ _ _ _ | show loopQ _ _ _ _ _ _))) | (refine awp_exit ?_; (first | show AWP _ _ _ _ _ | show loopQ _ _ _ _ _ _ | (simp only [blockQ_n]; first | show AWP _ _ _ _ _ | show loopQ _ _ _ _ _ _))) | ((first | refine walkS_end (hK _ ?_) | refine walkD_end (hK _ _ (okTrace_spec (by kernel_rfl)) ?_)); clear hK K; (first | show AWP _ _ _ _ _ | show loopQ _ _ _ _ _ _ | (simp only [blockQ_n]; first | show AWP _ _ _ _ _ | show loopQ _ _ _ _ _ _))) | ((first | refine walkS_run1 [7] rfl ?_ | refine walkD_run1 [7] rfl ?_); simp (maxSteps := 2000000) (disch := omega) only [go_sem, ↓reduceIte, reduceCtorEq, Nat.reduceLT, Nat.reducePow, Nat.reduceLeDiff, Nat.reduceAdd, Nat.reduceMul, Nat.reduceSub, Nat.reduceEqDiff, Nat.reduceBEq, Int.reduceToNat, Int.reduceBEq, Int.reduceBNe, ty30, ty34, ty26, ty24, ty22, ty3, ty36, ty85, ty120, ty4, hd, cb, ruleD, r1, r2, hu, bestI]; (repeat (first | refine ⟨by omega, ?_⟩ | refine ⟨True.intro, ?_⟩)))))
            refine ⟨⟨i + 1, by omega⟩, by simp only []; omega, ?_⟩
            refine Weak.list ?_ ?_; (all_goals simp (disch := omega) only [AllF, AllL, le_self, le_top, lle_self, exists_eq_left', Option.some.injEq, go_sem, ↓reduceIte, reduceCtorEq, Nat.reduceLT, Nat.reducePow, Nat.reduceLeDiff, Nat.reduceAdd, Nat.reduceMul, Nat.reduceSub, Nat.reduceEqDiff, Nat.reduceBEq, Int.reduceToNat, Int.reduceBEq, Int.reduceBNe, ty30, ty34, ty26, ty24, ty22, ty3, ty36, ty85, ty120, ty4, hd, cb, ruleD, bs, bestI]); (all_goals (repeat' (with_reducible apply And.intro))); (all_goals try (first | exact le_eq rfl | (refine le_int ?_; omega) | (refine le_eq ?_; simp; done)))
        · simp only [if_true] at bs
          (repeat (first | refine awp_seq ?_ | refine awp_yes rfl ?_ | refine awp_no rfl ?_ | refine awp_block ?_ | (refine awp_region fun K hK => ?_) | (refine awp_draw (by kernel_rfl) (by kernel_rfl) fun K hK => ?_) | (refine awp_skip ?_; (first | show AWP _ _ _ _ _ | show loopQ _ _ _ _ _ _ | (simp only [blockQ_n]; first | show AWP _ _ _ _ _ | show loopQ _ _ _ _ _ _))) | (refine awp_exit ?_; (first | show AWP _ _ _ _ _ | show loopQ _ _ _ _ _ _ | (simp only [blockQ_n]; first | show AWP _ _ _ _ _ | show loopQ _ _ _ _ _ _))) | ((first | refine walkS_end (hK _ ?_) | refine walkD_end (hK _ _ (okTrace_spec (by kernel_rfl)) ?_)); clear hK K; (first | show AWP _ _ _ _ _ | show loopQ _ _ _ _ _ _ | (simp only [blockQ_n]; first | show AWP _ _ _ _ _ | show loopQ _ _ _ _ _ _))) | ((first | refine walkS_run1 [7] rfl ?_ | refine walkD_run1 [7] rfl ?_); simp (maxSteps := 2000000) (disch := omega) only [go_sem, ↓reduceIte, reduceCtorEq, Nat.reduceLT, Nat.reducePow, Nat.reduceLeDiff, Nat.reduceAdd, Nat.reduceMul, Nat.reduceSub, Nat.reduceEqDiff, Nat.reduceBEq, Int.reduceToNat, Int.reduceBEq, Int.reduceBNe, ty30, ty34, ty26, ty24, ty22, ty3, ty36, ty85, ty120, ty4, hd, cb, ruleD, r1, r2, hu, bestI]; (repeat (first | refine ⟨by omega, ?_⟩ | refine ⟨True.intro, ?_⟩)))))
          refine ⟨⟨i + 1, by omega⟩, by simp only []; omega, ?_⟩
          refine Weak.list ?_ ?_; (all_goals simp (disch := omega) only [AllF, AllL, le_self, le_top, lle_self, exists_eq_left', Option.some.injEq, go_sem, ↓reduceIte, reduceCtorEq, Nat.reduceLT, Nat.reducePow, Nat.reduceLeDiff, Nat.reduceAdd, Nat.reduceMul, Nat.reduceSub, Nat.reduceEqDiff, Nat.reduceBEq, Int.reduceToNat, Int.reduceBEq, Int.reduceBNe, ty30, ty34, ty26, ty24, ty22, ty3, ty36, ty85, ty120, ty4, hd, cb, ruleD, bs, bestI]); (all_goals (repeat' (with_reducible apply And.intro))); (all_goals try (first | exact le_eq rfl | (refine le_int ?_; omega) | (refine le_eq ?_; simp; done)))
    · have : i = l.length := by omega
      subst this
      have e : ordTo l (k + 1) = ordTo l k ++ [p] := by
        rw [show ordTo l (k + 1) = match bestTo (fun i => (ordTo l k).contains i) (fun i => l.getD i r0) l.length with
          | some p => ordTo l k ++ [p]
          | none => ordTo l k from rfl, hp]
      (repeat (first | refine awp_seq ?_ | refine awp_yes rfl ?_ | refine awp_no rfl ?_ | refine awp_block ?_ | (refine awp_region fun K hK => ?_) | (refine awp_draw (by kernel_rfl) (by kernel_rfl) fun K hK => ?_) | (refine awp_skip ?_; (first | show AWP _ _ _ _ _ | show loopQ _ _ _ _ _ _ | (simp only [blockQ_n]; first | show AWP _ _ _ _ _ | show loopQ _ _ _ _ _ _))) | (refine awp_exit ?_; (first | show AWP _ _ _ _ _ | show loopQ _ _ _ _ _ _ | (simp only [blockQ_n]; first | show AWP _ _ _ _ _ | show loopQ _ _ _ _ _ _))) | ((first | refine walkS_end (hK _ ?_) | refine walkD_end (hK _ _ (okTrace_spec (by kernel_rfl)) ?_)); clear hK K; (first | show AWP _ _ _ _ _ | show loopQ _ _ _ _ _ _ | (simp only [blockQ_n]; first | show AWP _ _ _ _ _ | show loopQ _ _ _ _ _ _))) | ((first | refine walkS_run1 [7] rfl ?_ | refine walkD_run1 [7] rfl ?_); simp (maxSteps := 2000000) (disch := omega) only [go_sem, ↓reduceIte, reduceCtorEq, Nat.reduceLT, Nat.reducePow, Nat.reduceLeDiff, Nat.reduceAdd, Nat.reduceMul, Nat.reduceSub, Nat.reduceEqDiff, Nat.reduceBEq, Int.reduceToNat, Int.reduceBEq, Int.reduceBNe, ty30, ty34, ty26, ty24, ty22, ty3, ty36, ty85, ty120, ty4, hd, cb, ruleD, hp, bestI]; (repeat (first | refine ⟨by omega, ?_⟩ | refine ⟨True.intro, ?_⟩)))))
      refine ⟨⟨k + 1, by omega⟩, by simp only []; omega, ?_⟩
      refine Weak.list ?_ ?_; (all_goals simp (disch := omega) only [AllF, AllL, le_self, le_top, lle_self, exists_eq_left', Option.some.injEq, go_sem, ↓reduceIte, reduceCtorEq, Nat.reduceLT, Nat.reducePow, Nat.reduceLeDiff, Nat.reduceAdd, Nat.reduceMul, Nat.reduceSub, Nat.reduceEqDiff, Nat.reduceBEq, Int.reduceToNat, Int.reduceBEq, Int.reduceBNe, ty30, ty34, ty26, ty24, ty22, ty3, ty36, ty85, ty120, ty4, hd, cb, ruleD, hp, bestI]); (all_goals (repeat' (with_reducible apply And.intro))); (all_goals try (first | exact le_eq rfl | (refine le_int ?_; omega) | (refine le_eq ?_; simp; done)))
      · rw [e]
        refine le_grgr rfl rfl (fun i hi => ?_)
        have := rowI_put (ordTo l k) p i (by omega)
        rw [hlen] at this
        exact this
      · rw [e]
        refine lle_arr (fun j hj => ?_)
        by_cases hjp : j = p
        · subst hjp; simp
        · simp [hjp]
  · have : k = l.length := by omega
    subst this
    (repeat (first | refine awp_seq ?_ | refine awp_yes rfl ?_ | refine awp_no rfl ?_ | refine awp_block ?_ | (refine awp_region fun K hK => ?_) | (refine awp_draw (by kernel_rfl) (by kernel_rfl) fun K hK => ?_) | (refine awp_skip ?_; (first | show AWP _ _ _ _ _ | show loopQ _ _ _ _ _ _ | (simp only [blockQ_n]; first | show AWP _ _ _ _ _ | show loopQ _ _ _ _ _ _))) | (refine awp_exit ?_; (first | show AWP _ _ _ _ _ | show loopQ _ _ _ _ _ _ | (simp only [blockQ_n]; first | show AWP _ _ _ _ _ | show loopQ _ _ _ _ _ _))) | ((first | refine walkS_end (hK _ ?_) | refine walkD_end (hK _ _ (okTrace_spec (by kernel_rfl)) ?_)); clear hK K; (first | show AWP _ _ _ _ _ | show loopQ _ _ _ _ _ _ | (simp only [blockQ_n]; first | show AWP _ _ _ _ _ | show loopQ _ _ _ _ _ _))) | ((first | refine walkS_run1 [7] rfl ?_ | refine walkD_run1 [7] rfl ?_); simp (maxSteps := 2000000) (disch := omega) only [go_sem, ↓reduceIte, reduceCtorEq, Nat.reduceLT, Nat.reducePow, Nat.reduceLeDiff, Nat.reduceAdd, Nat.reduceMul, Nat.reduceSub, Nat.reduceEqDiff, Nat.reduceBEq, Int.reduceToNat, Int.reduceBEq, Int.reduceBNe, ty30, ty34, ty26, ty24, ty22, ty3, ty36, ty85, ty120, ty4, hd, cb, ruleD]; (repeat (first | refine ⟨by omega, ?_⟩ | refine ⟨True.intro, ?_⟩)))))
    refine awp_slot 2 _ (.p (.d (.sl 1 l.length (rowI (orderR l))))) rfl (le_gr rfl (fun _ _ => rfl)) ?_
    refine awp_ret ⟨_, ?_, rfl⟩; rw [Try.results17]; simp (disch := omega) only [ResVars, ResVar, ptrLoc, go_sem, ↓reduceIte, reduceCtorEq, Nat.reduceLT, Nat.reducePow, Nat.reduceLeDiff, Nat.reduceAdd, Nat.reduceMul, Nat.reduceSub, Nat.reduceEqDiff, Nat.reduceBEq, Int.reduceToNat, Int.reduceBEq, Int.reduceBNe, ty30, ty34, ty26, ty24, ty22, ty3, ty36, ty85, ty120, ty4, hd, cb, ruleD]
end Go.Proofs.Ytgfnpkpbebihgaa
