/- Layer 8's laws: the smallest config, the simplest facts. Conditions: none. -/
import Derived.Test.YtgfnpkpbebihgaaConf8
import Derived.Test.YtgfnpkpbebihgaaDle
set_option linter.unusedSimpArgs false
set_option linter.unusedVariables false
namespace Go.Proofs.Ytgfnpkpbebihgaa
open Go.Proofs.Ytgfnpkpbebihgaa.AL
def smallK : Config := ⟨[[⟨1, 0, 0, 0, 0⟩]], ⟨3, [(1, 0)], []⟩, [[[⟨0, ⟨0, 0⟩, 1, 0, 0, ⟨0, 0⟩⟩]]]⟩
def i0 : Dat := .v (.int .i64 0)
def u0 : Dat := .v (.int .u64 0)
def smallRaw : List Dat := [.sl 1 1 fun i => [[.sl 5 1 fun i => [[.v (.int .i64 1), i0, i0, i0, i0]].getD i []]].getD i [], .v (.int .i64 3), .sl 2 1 fun i => [[.v (.int .i64 1), .v (.int .i64 0)]].getD i [], .v (.slice none 0 0),
  .sl 1 1 fun i => [[.sl 1 1 fun i => [[.sl 12 1 fun i => [[i0, u0, u0, u0, u0, .v (.int .i64 1), i0, i0, u0, u0, u0, u0]].getD i []]].getD i []]].getD i []]
theorem one_lt {i : Nat} (h : i < 1) : i = 0 := by omega
theorem smallRaw_le : DLes smallRaw (configD smallK) := by
  refine .cons (dle_sl rfl fun i h => ?_) (.cons (dle_refl _) (.cons (dle_sl rfl fun i h => ?_) (.cons dle_emp (.cons (dle_sl rfl fun i h => ?_) .nil))))
  · obtain rfl := one_lt h
    refine .cons (dle_sl rfl fun i h => ?_) .nil
    obtain rfl := one_lt h
    exact .of_eq rfl
  · obtain rfl := one_lt h
    exact .of_eq rfl
  · obtain rfl := one_lt h
    refine .cons (dle_sl rfl fun i h => ?_) .nil
    obtain rfl := one_lt h
    refine .cons (dle_sl rfl fun i h => ?_) .nil
    obtain rfl := one_lt h
    refine .of_eq ?_
    show _ = ruleD _
    unfold ruleD
    simp only [List.getD_cons_zero, hi_zero, lo_zero]
    rfl
set_option maxRecDepth 100000 in
set_option maxHeartbeats 2000000 in
theorem Small_c : ACalls Try.prog 48 [] (· = [.agg (configD smallK)]) := by
  refine acalls_agg smallRaw_le ?_
  unfold smallRaw i0 u0
  refine acalls_of_awp Try.func48 rfl (by decide +kernel) (by rw [Try.ntmps48]; simp) ?_; rw [Try.ntmps48]; simp only [frOf]
  (repeat (first | refine awp_seq ?_ | refine awp_yes rfl ?_ | refine awp_no rfl ?_ | refine awp_block ?_ | (refine awp_region fun K hK => ?_) | (refine awp_draw (by kernel_rfl) (by kernel_rfl) fun K hK => ?_) | (refine awp_skip ?_; (first | show AWP _ _ _ _ _ | show loopQ _ _ _ _ _ _ | (simp only [blockQ_n]; first | show AWP _ _ _ _ _ | show loopQ _ _ _ _ _ _))) | (refine awp_exit ?_; (first | show AWP _ _ _ _ _ | show loopQ _ _ _ _ _ _ | (simp only [blockQ_n]; first | show AWP _ _ _ _ _ | show loopQ _ _ _ _ _ _))) | ((first | refine walkS_end (hK _ ?_) | refine walkD_end (hK _ _ (okTrace_spec (by kernel_rfl)) ?_)); clear hK K; (first | show AWP _ _ _ _ _ | show loopQ _ _ _ _ _ _ | (simp only [blockQ_n]; first | show AWP _ _ _ _ _ | show loopQ _ _ _ _ _ _))) | ((first | refine walkS_run1 [] rfl ?_ | refine walkD_run1 [] rfl ?_); simp (maxSteps := 2000000) (disch := omega) only [go_sem, ↓reduceIte, reduceCtorEq, Nat.reduceLT, Nat.reducePow, Nat.reduceLeDiff, Nat.reduceAdd, Nat.reduceMul, Nat.reduceSub, Nat.reduceEqDiff, Nat.reduceBEq, Int.reduceToNat, Int.reduceBEq, Int.reduceBNe, ty24, ty26, ty30, ty28, ty71, ty50, ty53, ty46, ty58, ty70, ty94, ty3, ty22, ty4, ty31, ty44, ty34, ty68, ty51, ty47, ty48, ty54]; (repeat (first | refine ⟨by omega, ?_⟩ | refine ⟨True.intro, ?_⟩)))))
  refine awp_ret ⟨_, ?_, rfl⟩; rw [Try.results48]; simp (disch := omega) only [ResVars, ResVar, ptrLoc, go_sem, ↓reduceIte, reduceCtorEq, Nat.reduceLT, Nat.reducePow, Nat.reduceLeDiff, Nat.reduceAdd, Nat.reduceMul, Nat.reduceSub, Nat.reduceEqDiff, Nat.reduceBEq, Int.reduceToNat, Int.reduceBEq, Int.reduceBNe, ty24, ty26, ty30, ty28, ty71, ty50, ty53, ty46, ty58, ty70, ty94, ty3, ty22, ty4, ty31, ty44, ty34, ty68, ty51, ty47, ty48, ty54]
theorem smallK_small : smallK.small := by
  refine ⟨⟨by decide, ?_⟩, ⟨by decide, by decide⟩, by decide, ?_⟩
  · intro l h
    simp only [smallK, List.mem_singleton] at h
    subst h; decide
  · intro t h
    simp only [smallK, List.mem_singleton] at h
    subst h
    refine ⟨by decide, fun l h => ?_⟩
    simp only [List.mem_singleton] at h
    subst h; decide
set_option maxRecDepth 100000 in
set_option maxHeartbeats 2000000 in
theorem Awake8_c : ACalls Try.prog 22 [] (· = [.d (.v (.bool true))]) := by
  have hs := smallK_small
  have k0 := Small_c
  have k1 := StampC_c smallK ⟨0, 0⟩ 3 hs (by omega)
  have k2 := SoundC_c smallK hs
  have k3 := Allowed_c smallK.po 0 1 hs.po
  have k4 := Allowed_c smallK.po 0 2 hs.po
  have k5 := CloneC_c smallK hs
  have k6 := SameC_c smallK smallK hs hs
  rw [show stampE smallK ⟨0, 0⟩ 3 = 0 by decide +kernel, show stampC smallK ⟨0, 0⟩ 3 = stampV 0 3 by decide +kernel] at k1
  rw [show soundC smallK = 0 by decide +kernel] at k2
  rw [show allowedP smallK.po 0 1 = true by decide +kernel] at k3
  rw [show allowedP smallK.po 0 2 = false by decide +kernel] at k4
  rw [show sameC smallK smallK = true by decide +kernel] at k6
  have hz : hi (stampV 0 3).v = 844424946909184 := by decide +kernel
  generalize stampV 0 3 = z at k1 hz
  clear hs
  generalize smallK = K at k0 k1 k2 k3 k4 k5 k6
  simp only [configD] at k0 k1 k2 k5 k6
  simp only [policyD] at k3 k4
  simp only [spotD] at k1
  simp only [cb] at k1
  refine acalls_of_awp Try.func22 rfl (by decide +kernel) (by rw [Try.ntmps22]; simp) ?_; rw [Try.ntmps22]; simp only [frOf]
  (repeat (first | refine awp_seq ?_ | refine awp_yes rfl ?_ | refine awp_no rfl ?_ | refine awp_block ?_ | (refine awp_region fun K hK => ?_) | (refine awp_draw (by kernel_rfl) (by kernel_rfl) fun K hK => ?_) | (refine awp_skip ?_; (first | show AWP _ _ _ _ _ | show loopQ _ _ _ _ _ _ | (simp only [blockQ_n]; first | show AWP _ _ _ _ _ | show loopQ _ _ _ _ _ _))) | (refine awp_exit ?_; (first | show AWP _ _ _ _ _ | show loopQ _ _ _ _ _ _ | (simp only [blockQ_n]; first | show AWP _ _ _ _ _ | show loopQ _ _ _ _ _ _))) | ((first | refine walkS_end (hK _ ?_) | refine walkD_end (hK _ _ (okTrace_spec (by kernel_rfl)) ?_)); clear hK K; (first | show AWP _ _ _ _ _ | show loopQ _ _ _ _ _ _ | (simp only [blockQ_n]; first | show AWP _ _ _ _ _ | show loopQ _ _ _ _ _ _))) | ((first | refine walkS_call3 rfl rfl rfl ?_ | refine walkD_call3 rfl rfl rfl ?_); simp (maxSteps := 2000000) (disch := omega) only [go_sem, ↓reduceIte, reduceCtorEq, Nat.reduceLT, Nat.reducePow, Nat.reduceLeDiff, Nat.reduceAdd, Nat.reduceMul, Nat.reduceSub, Nat.reduceEqDiff, Nat.reduceBEq, Int.reduceToNat, Int.reduceBEq, Int.reduceBNe, ty24, ty26, ty30, ty28, ty71, ty50, ty53, ty46, ty58, ty70, ty94, ty3, ty22, ty4, ty31, ty44, ty34, ty68, ty51, ty47, ty48, ty54, hz]; (first | refine ⟨_, k0, ?_⟩ | refine ⟨_, k1, ?_⟩ | refine ⟨_, k2, ?_⟩ | refine ⟨_, k3, ?_⟩ | refine ⟨_, k4, ?_⟩ | refine ⟨_, k5, ?_⟩ | refine ⟨_, k6, ?_⟩)) | ((first | refine walkS_run1 [] rfl ?_ | refine walkD_run1 [] rfl ?_); simp (maxSteps := 2000000) (disch := omega) only [go_sem, ↓reduceIte, reduceCtorEq, Nat.reduceLT, Nat.reducePow, Nat.reduceLeDiff, Nat.reduceAdd, Nat.reduceMul, Nat.reduceSub, Nat.reduceEqDiff, Nat.reduceBEq, Int.reduceToNat, Int.reduceBEq, Int.reduceBNe, ty24, ty26, ty30, ty28, ty71, ty50, ty53, ty46, ty58, ty70, ty94, ty3, ty22, ty4, ty31, ty44, ty34, ty68, ty51, ty47, ty48, ty54, hz]; (repeat (first | refine ⟨by omega, ?_⟩ | refine ⟨True.intro, ?_⟩)))))
  refine awp_ret ⟨_, ?_, rfl⟩; rw [Try.results22]; simp (disch := omega) only [ResVars, ResVar, ptrLoc, go_sem, ↓reduceIte, reduceCtorEq, Nat.reduceLT, Nat.reducePow, Nat.reduceLeDiff, Nat.reduceAdd, Nat.reduceMul, Nat.reduceSub, Nat.reduceEqDiff, Nat.reduceBEq, Int.reduceToNat, Int.reduceBEq, Int.reduceBNe, ty24, ty26, ty30, ty28, ty71, ty50, ty53, ty46, ty58, ty70, ty94, ty3, ty22, ty4, ty31, ty44, ty34, ty68, ty51, ty47, ty48, ty54, hz]
end Go.Proofs.Ytgfnpkpbebihgaa
