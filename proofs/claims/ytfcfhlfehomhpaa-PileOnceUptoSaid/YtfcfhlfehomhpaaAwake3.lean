/- The simplest facts that every law of layer 3 asks. Conditions: none. -/
import Derived.Test.YtfcfhlfehomhpaaPile4
set_option linter.unusedSimpArgs false
set_option linter.unusedVariables false
namespace Go.Proofs.Ytfcfhlfehomhpaa
open Go.Proofs.Ytfcfhlfehomhpaa.AL
def kA : Cube := ⟨1, 1⟩
def kB : Cube := ⟨3, 3⟩
def kC : Cube := ⟨1, 3⟩
theorem hd_lit (x : BitVec 128) (a b : Int) (h1 : hi x = a) (h2 : lo x = b) : hd x = [.v (.int .u64 a), .v (.int .u64 b)] := by unfold hd; rw [h1, h2]
theorem cb_lit (k : Cube) (a b c d : Int) (h1 : hi k.v = a) (h2 : lo k.v = b) (h3 : hi k.c = c) (h4 : lo k.c = d) : cb k = [.v (.int .u64 a), .v (.int .u64 b), .v (.int .u64 c), .v (.int .u64 d)] := by unfold cb; rw [h1, h2, h3, h4]
theorem row_one (k : Cube) (x : List Dat) (h : cb k = x) (i : Nat) (hi : i < 1) : (fun i => [x].getD i []) i = rowC [k] i := by
  have : i = 0 := by omega
  subst this
  rw [← h]; rfl
set_option maxRecDepth 100000 in
set_option maxHeartbeats 2000000 in
theorem awake3_c : ACalls Try.prog 39 [] (· = [.d (.v (.bool true))]) := by
  have f1 := LessP_c [kA] [kB] (by simp) (by simp)
  rw [show lessPR [kA] [kB] = ([kC], 0) from by decide +kernel] at f1
  have f2 := JoinP_c [kA] [kB] (by simp) (by simp)
  rw [show joinV [kA] [kB] = [kA] from by decide +kernel, show joinE [kA] [kB] = 0 from by decide +kernel] at f2
  have f3 := WithinP_c [kB] [kA] (by simp) (by simp)
  rw [show lessPR [kB] [kA] = ([], 0) from by decide +kernel] at f3
  have f4 := Pick_c [kC] (by simp)
  rw [show pickP [kC] = some kC from by decide +kernel] at f4
  have f5 := HasP_c [kA] 5 (by simp)
  rw [show hasP [kA] 5 = true from by decide +kernel] at f5
  have f6 := SoundP_c [kA] (by simp)
  rw [show soundP [kA] = true from by decide +kernel] at f6
  have e1 := cb_lit kA 0 1 0 1 (by decide +kernel) (by decide +kernel) (by decide +kernel) (by decide +kernel)
  have e2 := cb_lit kB 0 3 0 3 (by decide +kernel) (by decide +kernel) (by decide +kernel) (by decide +kernel)
  have e4 := hd_lit kC.v 0 1 (by decide +kernel) (by decide +kernel)
  have e5 := hd_lit 5 0 5 (by decide +kernel) (by decide +kernel)
  have rA := row_one kA _ e1
  have rB := row_one kB _ e2
  simp only [Option.getD_some, Option.isSome_some] at f4
  rw [e4] at f4
  rw [e5] at f5
  simp only [List.length_cons, List.length_nil, Nat.zero_add] at f1 f2 f3 f4 f5 f6
  simp only [List.isEmpty_nil, beq_self_eq_true, Bool.and_self] at f3
  generalize rowC [kA] = RA at f1 f2 f3 f5 f6 rA
  generalize rowC [kB] = RB at f1 f2 f3 rB
  generalize rowC [kC] = RC at f1 f4
  refine acalls_of_awp Try.func39 rfl (by decide +kernel) (by rw [Try.ntmps39]; simp) ?_; rw [Try.ntmps39]; simp only [frOf]
  (repeat ((fail_if_success (show AWP _ _ (.region 2 _ _) _ _)); first | refine awp_seq ?_ | refine awp_yes rfl ?_ | refine awp_no rfl ?_ | refine awp_block ?_ | (refine awp_region fun K hK => ?_) | (refine awp_draw (by kernel_rfl) (by kernel_rfl) fun K hK => ?_) | (refine awp_skip ?_; (first | show AWP _ _ _ _ _ | show loopQ _ _ _ _ _ _)) | (refine awp_exit ?_; (first | show AWP _ _ _ _ _ | show loopQ _ _ _ _ _ _)) | ((first | refine walkS_end (hK _ ?_) | refine walkD_end (hK _ _ (okTrace_spec (by kernel_rfl)) ?_)); clear hK K; (first | show AWP _ _ _ _ _ | show loopQ _ _ _ _ _ _)) | ((first | refine walkS_run1 [] rfl ?_ | refine walkD_run1 [] rfl ?_); simp (maxSteps := 2000000) (disch := omega) only [go_sem, ↓reduceIte, reduceCtorEq, Nat.reduceLT, Nat.reducePow, Nat.reduceLeDiff, Nat.reduceAdd, Nat.reduceMul, Nat.reduceSub, Nat.reduceEqDiff, Nat.reduceBEq, Int.reduceToNat, Int.reduceBEq, Int.reduceBNe, ty24, ty26, ty36, ty22, ty3, ty4, ty48, eqty24, eqty26, eqI]; (repeat (first | refine ⟨by omega, ?_⟩ | refine ⟨True.intro, ?_⟩)))))
  refine awp_slot 1 _ (.p (.d (.sl 4 1 RA))) rfl (le_sl rfl rA) ?_
  (repeat ((fail_if_success (show AWP _ _ (.region 3 _ _) _ _)); first | refine awp_seq ?_ | refine awp_yes rfl ?_ | refine awp_no rfl ?_ | refine awp_block ?_ | (refine awp_region fun K hK => ?_) | (refine awp_draw (by kernel_rfl) (by kernel_rfl) fun K hK => ?_) | (refine awp_skip ?_; (first | show AWP _ _ _ _ _ | show loopQ _ _ _ _ _ _)) | (refine awp_exit ?_; (first | show AWP _ _ _ _ _ | show loopQ _ _ _ _ _ _)) | ((first | refine walkS_end (hK _ ?_) | refine walkD_end (hK _ _ (okTrace_spec (by kernel_rfl)) ?_)); clear hK K; (first | show AWP _ _ _ _ _ | show loopQ _ _ _ _ _ _)) | ((first | refine walkS_run1 [] rfl ?_ | refine walkD_run1 [] rfl ?_); simp (maxSteps := 2000000) (disch := omega) only [go_sem, ↓reduceIte, reduceCtorEq, Nat.reduceLT, Nat.reducePow, Nat.reduceLeDiff, Nat.reduceAdd, Nat.reduceMul, Nat.reduceSub, Nat.reduceEqDiff, Nat.reduceBEq, Int.reduceToNat, Int.reduceBEq, Int.reduceBNe, ty24, ty26, ty36, ty22, ty3, ty4, ty48, eqty24, eqty26, eqI]; (repeat (first | refine ⟨by omega, ?_⟩ | refine ⟨True.intro, ?_⟩)))))
  refine awp_slot 2 _ (.p (.d (.sl 4 1 RB))) rfl (le_sl rfl rB) ?_
  (repeat (first | refine awp_seq ?_ | refine awp_yes rfl ?_ | refine awp_no rfl ?_ | refine awp_block ?_ | (refine awp_region fun K hK => ?_) | (refine awp_draw (by kernel_rfl) (by kernel_rfl) fun K hK => ?_) | (refine awp_skip ?_; (first | show AWP _ _ _ _ _ | show loopQ _ _ _ _ _ _)) | (refine awp_exit ?_; (first | show AWP _ _ _ _ _ | show loopQ _ _ _ _ _ _)) | ((first | refine walkS_end (hK _ ?_) | refine walkD_end (hK _ _ (okTrace_spec (by kernel_rfl)) ?_)); clear hK K; (first | show AWP _ _ _ _ _ | show loopQ _ _ _ _ _ _)) | ((first | refine walkS_call3 rfl rfl rfl ?_ | refine walkD_call3 rfl rfl rfl ?_); simp (maxSteps := 2000000) (disch := omega) only [go_sem, ↓reduceIte, reduceCtorEq, Nat.reduceLT, Nat.reducePow, Nat.reduceLeDiff, Nat.reduceAdd, Nat.reduceMul, Nat.reduceSub, Nat.reduceEqDiff, Nat.reduceBEq, Int.reduceToNat, Int.reduceBEq, Int.reduceBNe, ty24, ty26, ty36, ty22, ty3, ty4, ty48, eqty24, eqty26, eqI]; (first | refine ⟨_, f1, ?_⟩ | refine ⟨_, f2, ?_⟩ | refine ⟨_, f3, ?_⟩ | refine ⟨_, f4, ?_⟩ | refine ⟨_, f5, ?_⟩ | refine ⟨_, f6, ?_⟩)) | ((first | refine walkS_run1 [] rfl ?_ | refine walkD_run1 [] rfl ?_); simp (maxSteps := 2000000) (disch := omega) only [go_sem, ↓reduceIte, reduceCtorEq, Nat.reduceLT, Nat.reducePow, Nat.reduceLeDiff, Nat.reduceAdd, Nat.reduceMul, Nat.reduceSub, Nat.reduceEqDiff, Nat.reduceBEq, Int.reduceToNat, Int.reduceBEq, Int.reduceBNe, ty24, ty26, ty36, ty22, ty3, ty4, ty48, eqty24, eqty26, eqI]; (repeat (first | refine ⟨by omega, ?_⟩ | refine ⟨True.intro, ?_⟩)))))
  refine awp_ret ⟨_, ?_, rfl⟩; rw [Try.results39]; simp (disch := omega) only [ResVars, ResVar, ptrLoc, go_sem, ↓reduceIte, reduceCtorEq, Nat.reduceLT, Nat.reducePow, Nat.reduceLeDiff, Nat.reduceAdd, Nat.reduceMul, Nat.reduceSub, Nat.reduceEqDiff, Nat.reduceBEq, Int.reduceToNat, Int.reduceBEq, Int.reduceBNe, ty24, ty26, ty36, ty22, ty3, ty4, ty48, eqty24, eqty26, eqI]
end Go.Proofs.Ytfcfhlfehomhpaa
