/- Package config, on: alike, Same, Clone as data. Conditions: none, but that no row is greater than memory bears. -/
import Derived.Test.YtgfnpkpbebihgaaConf3
import Derived.Test.YtgfnpkpbebihgaaConf4
import Derived.Test.YtgfnpkpbebihgaaClone
import Derived.Test.YtgfnpkpbebihgaaEq
set_option linter.unusedSimpArgs false
set_option linter.unusedVariables false
namespace Go.Proofs.Ytgfnpkpbebihgaa
open Go.Proofs.Ytgfnpkpbebihgaa.AL
def eqPP : List Port → List Port → Bool := eqBy (· == ·) p0
def eqRR : List Rule → List Rule → Bool := eqBy (· == ·) r0
def eqTT : List (List Rule) → List (List Rule) → Bool := eqBy eqRR []
theorem alikeP_c (a b : List (List Port)) (ha : small a) (hb : small b) : ACalls Try.prog 70 [.d (.sl 1 a.length (rowPP a)), .d (.sl 1 b.length (rowPP b))] (· = [.d (.v (.bool (eqBy eqPP [] a b)))]) := by
  have h1 := ha.1
  have h2 := hb.1
  have l1 := small_at ha
  have l2 := small_at hb
  have c := EqualFP_c a b 101 eqPP (by omega) (by omega) (fun i => by have := l1 i; have := l2 i; omega) (fun i => EqualP_c _ _ (by have := l1 i; omega) (by have := l2 i; omega))
  generalize eqBy eqPP [] a b = q at c
  refine acalls_of_awp Try.func70 rfl (by decide +kernel) (by rw [Try.ntmps70]; simp) ?_; rw [Try.ntmps70]; simp only [frOf]
  (repeat (first | refine awp_seq ?_ | refine awp_yes rfl ?_ | refine awp_no rfl ?_ | refine awp_block ?_ | (refine awp_region fun K hK => ?_) | (refine awp_draw (by kernel_rfl) (by kernel_rfl) fun K hK => ?_) | (refine awp_skip ?_; (first | show AWP _ _ _ _ _ | show loopQ _ _ _ _ _ _ | (simp only [blockQ_n]; first | show AWP _ _ _ _ _ | show loopQ _ _ _ _ _ _))) | (refine awp_exit ?_; (first | show AWP _ _ _ _ _ | show loopQ _ _ _ _ _ _ | (simp only [blockQ_n]; first | show AWP _ _ _ _ _ | show loopQ _ _ _ _ _ _))) | ((first | refine walkS_end (hK _ ?_) | refine walkD_end (hK _ _ (okTrace_spec (by kernel_rfl)) ?_)); clear hK K; (first | show AWP _ _ _ _ _ | show loopQ _ _ _ _ _ _ | (simp only [blockQ_n]; first | show AWP _ _ _ _ _ | show loopQ _ _ _ _ _ _))) | ((first | refine walkS_call3 rfl rfl rfl ?_ | refine walkD_call3 rfl rfl rfl ?_); simp (maxSteps := 2000000) (disch := omega) only [go_sem, ↓reduceIte, reduceCtorEq, Nat.reduceLT, Nat.reducePow, Nat.reduceLeDiff, Nat.reduceAdd, Nat.reduceMul, Nat.reduceSub, Nat.reduceEqDiff, Nat.reduceBEq, Int.reduceToNat, Int.reduceBEq, Int.reduceBNe, ty50, ty53, ty46, ty48, ty47, ty3, ty4, ty44, ty68, ty51, policyD, topoD, configD]; (first | refine ⟨_, c, ?_⟩)) | ((first | refine walkS_run1 [] rfl ?_ | refine walkD_run1 [] rfl ?_); simp (maxSteps := 2000000) (disch := omega) only [go_sem, ↓reduceIte, reduceCtorEq, Nat.reduceLT, Nat.reducePow, Nat.reduceLeDiff, Nat.reduceAdd, Nat.reduceMul, Nat.reduceSub, Nat.reduceEqDiff, Nat.reduceBEq, Int.reduceToNat, Int.reduceBEq, Int.reduceBNe, ty50, ty53, ty46, ty48, ty47, ty3, ty4, ty44, ty68, ty51, policyD, topoD, configD]; (repeat (first | refine ⟨by omega, ?_⟩ | refine ⟨True.intro, ?_⟩)))))
  refine awp_ret ⟨_, ?_, rfl⟩; rw [Try.results70]; simp (disch := omega) only [ResVars, ResVar, ptrLoc, go_sem, ↓reduceIte, reduceCtorEq, Nat.reduceLT, Nat.reducePow, Nat.reduceLeDiff, Nat.reduceAdd, Nat.reduceMul, Nat.reduceSub, Nat.reduceEqDiff, Nat.reduceBEq, Int.reduceToNat, Int.reduceBEq, Int.reduceBNe, ty50, ty53, ty46, ty48, ty47, ty3, ty4, ty44, ty68, ty51, policyD, topoD, configD]
theorem alikeR_c (a b : List (List Rule)) (ha : smallR a) (hb : smallR b) : ACalls Try.prog 74 [.d (.sl 1 a.length (rowRR a)), .d (.sl 1 b.length (rowRR b))] (· = [.d (.v (.bool (eqTT a b)))]) := by
  have h1 := ha.1
  have h2 := hb.1
  have l1 := smallR_at ha
  have l2 := smallR_at hb
  have c := EqualFR_c a b 103 eqRR (by omega) (by omega) (fun i => by have := l1 i; have := l2 i; omega) (fun i => EqualR_c _ _ (by have := l1 i; omega) (by have := l2 i; omega))
  rw [show eqBy eqRR [] a b = eqTT a b from rfl] at c
  generalize eqTT a b = q at c
  refine acalls_of_awp Try.func74 rfl (by decide +kernel) (by rw [Try.ntmps74]; simp) ?_; rw [Try.ntmps74]; simp only [frOf]
  (repeat (first | refine awp_seq ?_ | refine awp_yes rfl ?_ | refine awp_no rfl ?_ | refine awp_block ?_ | (refine awp_region fun K hK => ?_) | (refine awp_draw (by kernel_rfl) (by kernel_rfl) fun K hK => ?_) | (refine awp_skip ?_; (first | show AWP _ _ _ _ _ | show loopQ _ _ _ _ _ _ | (simp only [blockQ_n]; first | show AWP _ _ _ _ _ | show loopQ _ _ _ _ _ _))) | (refine awp_exit ?_; (first | show AWP _ _ _ _ _ | show loopQ _ _ _ _ _ _ | (simp only [blockQ_n]; first | show AWP _ _ _ _ _ | show loopQ _ _ _ _ _ _))) | ((first | refine walkS_end (hK _ ?_) | refine walkD_end (hK _ _ (okTrace_spec (by kernel_rfl)) ?_)); clear hK K; (first | show AWP _ _ _ _ _ | show loopQ _ _ _ _ _ _ | (simp only [blockQ_n]; first | show AWP _ _ _ _ _ | show loopQ _ _ _ _ _ _))) | ((first | refine walkS_call3 rfl rfl rfl ?_ | refine walkD_call3 rfl rfl rfl ?_); simp (maxSteps := 2000000) (disch := omega) only [go_sem, ↓reduceIte, reduceCtorEq, Nat.reduceLT, Nat.reducePow, Nat.reduceLeDiff, Nat.reduceAdd, Nat.reduceMul, Nat.reduceSub, Nat.reduceEqDiff, Nat.reduceBEq, Int.reduceToNat, Int.reduceBEq, Int.reduceBNe, ty50, ty53, ty46, ty48, ty47, ty3, ty4, ty44, ty68, ty51, policyD, topoD, configD]; (first | refine ⟨_, c, ?_⟩)) | ((first | refine walkS_run1 [] rfl ?_ | refine walkD_run1 [] rfl ?_); simp (maxSteps := 2000000) (disch := omega) only [go_sem, ↓reduceIte, reduceCtorEq, Nat.reduceLT, Nat.reducePow, Nat.reduceLeDiff, Nat.reduceAdd, Nat.reduceMul, Nat.reduceSub, Nat.reduceEqDiff, Nat.reduceBEq, Int.reduceToNat, Int.reduceBEq, Int.reduceBNe, ty50, ty53, ty46, ty48, ty47, ty3, ty4, ty44, ty68, ty51, policyD, topoD, configD]; (repeat (first | refine ⟨by omega, ?_⟩ | refine ⟨True.intro, ?_⟩)))))
  refine awp_ret ⟨_, ?_, rfl⟩; rw [Try.results74]; simp (disch := omega) only [ResVars, ResVar, ptrLoc, go_sem, ↓reduceIte, reduceCtorEq, Nat.reduceLT, Nat.reducePow, Nat.reduceLeDiff, Nat.reduceAdd, Nat.reduceMul, Nat.reduceSub, Nat.reduceEqDiff, Nat.reduceBEq, Int.reduceToNat, Int.reduceBEq, Int.reduceBNe, ty50, ty53, ty46, ty48, ty47, ty3, ty4, ty44, ty68, ty51, policyD, topoD, configD]
def sameC (a b : Config) : Bool := eqBy eqPP [] a.tp b.tp && a.po.tn == b.po.tn && eqBy (· == ·) (0, 0) a.po.peers b.po.peers && eqBy (· == ·) w0 a.po.ways b.po.ways && eqBy eqTT [] a.tb b.tb
set_option maxRecDepth 100000 in
set_option maxHeartbeats 2000000 in
theorem SameC_c (a b : Config) (ha : a.small) (hb : b.small) : ACalls Try.prog 32 [.agg (configD a), .agg (configD b)] (· = [.d (.v (.bool (sameC a b)))]) := by
  have c1 := alikeP_c a.tp b.tp ha.tp hb.tp
  have c2 := EqualA_c a.po.peers b.po.peers ha.po.1 hb.po.1
  have c3 := EqualW_c a.po.ways b.po.ways ha.po.2 hb.po.2
  have t1 := ha.tb
  have t2 := hb.tb
  have c4 := EqualFT_c a.tb b.tb 74 eqTT (by omega) (by omega) (fun i => by have := (ha.at i).1; have := (hb.at i).1; omega) (fun i => alikeR_c _ _ (ha.at i) (hb.at i))
  unfold sameC
  generalize eqBy eqPP [] a.tp b.tp = q1 at c1
  generalize hq2 : (a.po.tn == b.po.tn) = q2
  generalize eqBy (· == ·) (0, 0) a.po.peers b.po.peers = q3 at c2
  generalize eqBy (· == ·) w0 a.po.ways b.po.ways = q4 at c3
  generalize eqBy eqTT [] a.tb b.tb = q5 at c4
  rcases and_cases4 q1 q2 q3 q4 with rfl | ⟨rfl, rfl⟩ | ⟨rfl, rfl, rfl⟩ | ⟨rfl, rfl, rfl, rfl⟩ | ⟨rfl, rfl, rfl, rfl⟩
  all_goals
    simp only [Bool.false_and, Bool.true_and, Bool.and_false]
    refine acalls_of_awp Try.func32 rfl (by decide +kernel) (by rw [Try.ntmps32]; simp) ?_; rw [Try.ntmps32]; simp only [frOf]
    (repeat (first | refine awp_seq ?_ | refine awp_yes rfl ?_ | refine awp_no rfl ?_ | refine awp_block ?_ | (refine awp_region fun K hK => ?_) | (refine awp_draw (by kernel_rfl) (by kernel_rfl) fun K hK => ?_) | (refine awp_skip ?_; (first | show AWP _ _ _ _ _ | show loopQ _ _ _ _ _ _ | (simp only [blockQ_n]; first | show AWP _ _ _ _ _ | show loopQ _ _ _ _ _ _))) | (refine awp_exit ?_; (first | show AWP _ _ _ _ _ | show loopQ _ _ _ _ _ _ | (simp only [blockQ_n]; first | show AWP _ _ _ _ _ | show loopQ _ _ _ _ _ _))) | ((first | refine walkS_end (hK _ ?_) | refine walkD_end (hK _ _ (okTrace_spec (by kernel_rfl)) ?_)); clear hK K; (first | show AWP _ _ _ _ _ | show loopQ _ _ _ _ _ _ | (simp only [blockQ_n]; first | show AWP _ _ _ _ _ | show loopQ _ _ _ _ _ _))) | ((first | refine walkS_call3 rfl rfl rfl ?_ | refine walkD_call3 rfl rfl rfl ?_); simp (maxSteps := 2000000) (disch := omega) only [go_sem, ↓reduceIte, reduceCtorEq, Nat.reduceLT, Nat.reducePow, Nat.reduceLeDiff, Nat.reduceAdd, Nat.reduceMul, Nat.reduceSub, Nat.reduceEqDiff, Nat.reduceBEq, Int.reduceToNat, Int.reduceBEq, Int.reduceBNe, ty50, ty53, ty46, ty48, ty47, ty3, ty4, ty44, ty68, ty51, policyD, topoD, configD, hq2]; (first | refine ⟨_, c1, ?_⟩ | refine ⟨_, c2, ?_⟩ | refine ⟨_, c3, ?_⟩ | refine ⟨_, c4, ?_⟩)) | ((first | refine walkS_run1 [] rfl ?_ | refine walkD_run1 [] rfl ?_); simp (maxSteps := 2000000) (disch := omega) only [go_sem, ↓reduceIte, reduceCtorEq, Nat.reduceLT, Nat.reducePow, Nat.reduceLeDiff, Nat.reduceAdd, Nat.reduceMul, Nat.reduceSub, Nat.reduceEqDiff, Nat.reduceBEq, Int.reduceToNat, Int.reduceBEq, Int.reduceBNe, ty50, ty53, ty46, ty48, ty47, ty3, ty4, ty44, ty68, ty51, policyD, topoD, configD, hq2]; (repeat (first | refine ⟨by omega, ?_⟩ | refine ⟨True.intro, ?_⟩)))))
    refine awp_ret ⟨_, ?_, rfl⟩; rw [Try.results32]; simp (disch := omega) only [ResVars, ResVar, ptrLoc, go_sem, ↓reduceIte, reduceCtorEq, Nat.reduceLT, Nat.reducePow, Nat.reduceLeDiff, Nat.reduceAdd, Nat.reduceMul, Nat.reduceSub, Nat.reduceEqDiff, Nat.reduceBEq, Int.reduceToNat, Int.reduceBEq, Int.reduceBNe, ty50, ty53, ty46, ty48, ty47, ty3, ty4, ty44, ty68, ty51, policyD, topoD, configD, hq2]
end Go.Proofs.Ytgfnpkpbebihgaa
