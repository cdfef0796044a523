/- Package config, on: Stamp. Conditions: none, but that no row is greater than memory bears. -/
import Derived.Test.YtgfnpkpbebihgaaConf6
import Derived.Test.YtgfnpkpbebihgaaOver
set_option linter.unusedSimpArgs false
set_option linter.unusedVariables false
namespace Go.Proofs.Ytgfnpkpbebihgaa
open Go.Proofs.Ytgfnpkpbebihgaa.AL
/-- a number below 2^63 as a word -/
def wordOf (n : Int) : BitVec 64 := BitVec.ofNat 64 n.toNat
theorem wordOf_bvi {n : Int} (h1 : 0 ≤ n) (h2 : n < 9223372036854775808) : bvi (wordOf n) = n := by
  unfold bvi wordOf
  rw [BitVec.toNat_ofNat]
  omega
theorem over_small (b : Nat) (n : Int) (h1 : 0 ≤ n) (h2 : n < 2 ^ b) (hb : b ≤ 32) : over b (wordOf n) = false := by
  have hlt : n < 9223372036854775808 := Int.lt_of_lt_of_le h2 (by
    have : (2 : Int) ^ b ≤ 2 ^ 32 := by
      have h := Nat.pow_le_pow_right (show 1 ≤ 2 by decide) hb
      exact_mod_cast h
    omega)
  rw [over_shift b _ (by omega), wordOf_bvi h1 hlt, show min b 64 = b by omega, Int.ediv_eq_zero_of_lt h1 h2]
  simp
/-- what a stamp sets -/
def stampV (tn v : Int) : Cube := mkC (putB (putB 0 88 24 (wordOf (tn + 1))) 112 8 (wordOf v)) (ones 40 <<< 88)
def edgesHas (t : List (List Port)) (s : Spot) : Bool := (edgesT t).contains s
def stampE (c : Config) (s : Spot) (v : Int) : Int := if soundC c ≠ 0 then soundC c else if v < 0 ∨ 255 < v then 4 else if edgesHas c.tp s = false then 7 else 0
def stampC (c : Config) (s : Spot) (v : Int) : Cube := if stampE c s v = 0 then stampV (edgeT c.tp s) v else ⟨0, 0⟩
theorem sound_ports {t : List (List Port)} (h : soundT t = 0) {i j : Nat} (hi : i < t.length) (hj : j < (t.getD i []).length) : portT t i j = true := by
  unfold soundT at h
  split at h
  · cases h
  · split at h
    · cases h
    · split at h
      · rename_i h3
        have h4 := allF_iff.1 h3 i (Nat.zero_le _) hi
        exact allF_iff.1 h4 j (Nat.zero_le _) hj
      · cases h
theorem sound_tenant {t : List (List Port)} (h : soundT t = 0) {s : Spot} (hs : s ∈ edgesT t) : 0 ≤ edgeT t s ∧ edgeT t s < 4 := by
  obtain ⟨i, j, e1, h1, h2, h3⟩ := edgesT_at hs
  obtain ⟨i', j', g1, g2, g3, g4⟩ := edgesTo_mem.1 hs
  have e2 : i' = i ∧ j' = j := by
    rw [e1] at g4
    have a1 := congrArg Spot.sw g4
    have a2 := congrArg Spot.po g4
    simp only [] at a1 a2
    omega
  obtain ⟨rfl, rfl⟩ := e2
  have hp := sound_ports h h1 h2
  rw [h3]
  unfold portT at hp
  simp only [] at hp
  rw [if_neg (by omega), if_pos g3] at hp
  simp only [Bool.and_eq_true, decide_eq_true_eq] at hp
  exact ⟨hp.1.1.1.1, hp.1.1.1.2⟩
theorem putE_small (a b n : Int) (h1 : 0 ≤ n) (h2 : n < 2 ^ b.toNat) (hb : b.toNat ≤ 32) (hf : fieldB a b 64 = true) : putE a b (wordOf n) = 0 := by
  unfold putE
  rw [hf, over_small b.toNat n h1 h2 hb]; rfl
theorem cb_none : cb ⟨0, 0⟩ = [.v (.int .u64 0), .v (.int .u64 0), .v (.int .u64 0), .v (.int .u64 0)] := by unfold cb; simp only [hi_zero, lo_zero]
set_option maxRecDepth 100000 in
set_option maxHeartbeats 4000000 in
theorem StampC_c (c : Config) (s : Spot) (v : Int) (hc : c.small) (hv : -9223372036854775808 ≤ v ∧ v < 9223372036854775808) : ACalls Try.prog 25 [.agg (configD c), .agg (spotD s), .d (.v (.int .i64 v))] (· = [.agg (cb (stampC c s v)), .d (.v (.int .i64 (stampE c s v)))]) := by
  have s1 := SoundC_c c hc
  have eb := edgesTo_len hc.tp c.tp.length
  have et := hc.tp.1
  rw [show edgesTo c.tp c.tp.length = edgesT c.tp from rfl] at eb
  have ed := EdgesT_c c.tp hc.tp
  have ct := ContainsS_c (edgesT c.tp) s (by omega)
  have fail : stampE c s v ≠ 0 → stampC c s v = ⟨0, 0⟩ := fun h => if_neg h
  simp only [configD] at s1
  simp only [topoD] at ed
  simp only [spotD] at ct
  have hst : stampE c s v = if soundC c ≠ 0 then soundC c else if v < 0 ∨ 255 < v then 4 else if (edgesT c.tp).contains s = false then 7 else 0 := rfl
  by_cases h1 : soundC c = 0
  · rw [if_neg (by omega)] at hst
    rw [h1] at s1
    by_cases h2 : v < 0 ∨ 255 < v
    · rw [if_pos h2] at hst
      rw [fail (by rw [hst]; decide), hst, cb_none]
      by_cases h3 : v < 0
      all_goals
        refine acalls_of_awp Try.func25 rfl (by decide +kernel) (by rw [Try.ntmps25]; simp) ?_; rw [Try.ntmps25]; simp only [frOf]
        (repeat (first | refine awp_seq ?_ | refine awp_yes rfl ?_ | refine awp_no rfl ?_ | refine awp_block ?_ | (refine awp_region fun K hK => ?_) | (refine awp_draw (by kernel_rfl) (by kernel_rfl) fun K hK => ?_) | (refine awp_skip ?_; (first | show AWP _ _ _ _ _ | show loopQ _ _ _ _ _ _ | (simp only [blockQ_n]; first | show AWP _ _ _ _ _ | show loopQ _ _ _ _ _ _))) | (refine awp_exit ?_; (first | show AWP _ _ _ _ _ | show loopQ _ _ _ _ _ _ | (simp only [blockQ_n]; first | show AWP _ _ _ _ _ | show loopQ _ _ _ _ _ _))) | ((first | refine walkS_end (hK _ ?_) | refine walkD_end (hK _ _ (okTrace_spec (by kernel_rfl)) ?_)); clear hK K; (first | show AWP _ _ _ _ _ | show loopQ _ _ _ _ _ _ | (simp only [blockQ_n]; first | show AWP _ _ _ _ _ | show loopQ _ _ _ _ _ _))) | ((first | refine walkS_call3 rfl rfl rfl ?_ | refine walkD_call3 rfl rfl rfl ?_); simp (maxSteps := 2000000) (disch := omega) only [go_sem, ↓reduceIte, reduceCtorEq, Nat.reduceLT, Nat.reducePow, Nat.reduceLeDiff, Nat.reduceAdd, Nat.reduceMul, Nat.reduceSub, Nat.reduceEqDiff, Nat.reduceBEq, Int.reduceToNat, Int.reduceBEq, Int.reduceBNe, ty24, ty26, ty50, ty53, ty46, ty58, ty70, ty94, ty3, ty22, ty4, ty31, ty44, ty54, policyD, topoD, configD, spotD, hd, cb]; (first | refine ⟨_, s1, ?_⟩)) | ((first | refine walkS_run1 [] rfl ?_ | refine walkD_run1 [] rfl ?_); simp (maxSteps := 2000000) (disch := omega) only [go_sem, ↓reduceIte, reduceCtorEq, Nat.reduceLT, Nat.reducePow, Nat.reduceLeDiff, Nat.reduceAdd, Nat.reduceMul, Nat.reduceSub, Nat.reduceEqDiff, Nat.reduceBEq, Int.reduceToNat, Int.reduceBEq, Int.reduceBNe, ty24, ty26, ty50, ty53, ty46, ty58, ty70, ty94, ty3, ty22, ty4, ty31, ty44, ty54, policyD, topoD, configD, spotD, hd, cb]; (repeat (first | refine ⟨by omega, ?_⟩ | refine ⟨True.intro, ?_⟩)))))
        refine awp_ret ⟨_, ?_, rfl⟩; rw [Try.results25]; simp (disch := omega) only [ResVars, ResVar, ptrLoc, go_sem, ↓reduceIte, reduceCtorEq, Nat.reduceLT, Nat.reducePow, Nat.reduceLeDiff, Nat.reduceAdd, Nat.reduceMul, Nat.reduceSub, Nat.reduceEqDiff, Nat.reduceBEq, Int.reduceToNat, Int.reduceBEq, Int.reduceBNe, ty24, ty26, ty50, ty53, ty46, ty58, ty70, ty94, ty3, ty22, ty4, ty31, ty44, ty54, policyD, topoD, configD, spotD, hd, cb]
    · rw [if_neg h2] at hst
      cases hq : (edgesT c.tp).contains s
      · rw [hq] at ct
        rw [if_pos hq] at hst
        rw [fail (by rw [hst]; decide), hst, cb_none]
        generalize edgesT c.tp = l at ed ct
        refine acalls_of_awp Try.func25 rfl (by decide +kernel) (by rw [Try.ntmps25]; simp) ?_; rw [Try.ntmps25]; simp only [frOf]
        (repeat (first | refine awp_seq ?_ | refine awp_yes rfl ?_ | refine awp_no rfl ?_ | refine awp_block ?_ | (refine awp_region fun K hK => ?_) | (refine awp_draw (by kernel_rfl) (by kernel_rfl) fun K hK => ?_) | (refine awp_skip ?_; (first | show AWP _ _ _ _ _ | show loopQ _ _ _ _ _ _ | (simp only [blockQ_n]; first | show AWP _ _ _ _ _ | show loopQ _ _ _ _ _ _))) | (refine awp_exit ?_; (first | show AWP _ _ _ _ _ | show loopQ _ _ _ _ _ _ | (simp only [blockQ_n]; first | show AWP _ _ _ _ _ | show loopQ _ _ _ _ _ _))) | ((first | refine walkS_end (hK _ ?_) | refine walkD_end (hK _ _ (okTrace_spec (by kernel_rfl)) ?_)); clear hK K; (first | show AWP _ _ _ _ _ | show loopQ _ _ _ _ _ _ | (simp only [blockQ_n]; first | show AWP _ _ _ _ _ | show loopQ _ _ _ _ _ _))) | ((first | refine walkS_call3 rfl rfl rfl ?_ | refine walkD_call3 rfl rfl rfl ?_); simp (maxSteps := 2000000) (disch := omega) only [go_sem, ↓reduceIte, reduceCtorEq, Nat.reduceLT, Nat.reducePow, Nat.reduceLeDiff, Nat.reduceAdd, Nat.reduceMul, Nat.reduceSub, Nat.reduceEqDiff, Nat.reduceBEq, Int.reduceToNat, Int.reduceBEq, Int.reduceBNe, ty24, ty26, ty50, ty53, ty46, ty58, ty70, ty94, ty3, ty22, ty4, ty31, ty44, ty54, policyD, topoD, configD, spotD, hd, cb]; (first | refine ⟨_, s1, ?_⟩ | refine ⟨_, ed, ?_⟩ | refine ⟨_, ct, ?_⟩)) | ((first | refine walkS_run1 [] rfl ?_ | refine walkD_run1 [] rfl ?_); simp (maxSteps := 2000000) (disch := omega) only [go_sem, ↓reduceIte, reduceCtorEq, Nat.reduceLT, Nat.reducePow, Nat.reduceLeDiff, Nat.reduceAdd, Nat.reduceMul, Nat.reduceSub, Nat.reduceEqDiff, Nat.reduceBEq, Int.reduceToNat, Int.reduceBEq, Int.reduceBNe, ty24, ty26, ty50, ty53, ty46, ty58, ty70, ty94, ty3, ty22, ty4, ty31, ty44, ty54, policyD, topoD, configD, spotD, hd, cb]; (repeat (first | refine ⟨by omega, ?_⟩ | refine ⟨True.intro, ?_⟩)))))
        refine awp_ret ⟨_, ?_, rfl⟩; rw [Try.results25]; simp (disch := omega) only [ResVars, ResVar, ptrLoc, go_sem, ↓reduceIte, reduceCtorEq, Nat.reduceLT, Nat.reducePow, Nat.reduceLeDiff, Nat.reduceAdd, Nat.reduceMul, Nat.reduceSub, Nat.reduceEqDiff, Nat.reduceBEq, Int.reduceToNat, Int.reduceBEq, Int.reduceBNe, ty24, ty26, ty50, ty53, ty46, ty58, ty70, ty94, ty3, ty22, ty4, ty31, ty44, ty54, policyD, topoD, configD, spotD, hd, cb]
      · rw [hq] at ct
        rw [if_neg (by rw [hq]; decide)] at hst
        have hs0 : soundT c.tp = 0 := by
          refine Classical.byContradiction fun h => ?_
          unfold soundC at h1
          rw [if_pos h] at h1
          exact h h1
        have hmem : s ∈ edgesT c.tp := by simpa using hq
        obtain ⟨tn1, tn2⟩ := sound_tenant hs0 hmem
        obtain ⟨i, j, e1, b1, b2, e2⟩ := edgesT_at hmem
        have hsc : stampC c s v = stampV (edgeT c.tp s) v := if_pos hst
        rw [hsc, hst]
        unfold stampV
        generalize edgeT c.tp s = tn at tn1 tn2 e2
        have hv0 : 0 ≤ v := by omega
        have p1 := Put_c 0 88 24 (wordOf (tn + 1)) (by omega)
        rw [putE_small 88 24 (tn + 1) (by omega) (by simp; omega) (by decide) (by decide), if_pos rfl, wordOf_bvi (by omega) (by omega)] at p1
        have p2 := Put_c (putB 0 (88 : Int).toNat (24 : Int).toNat (wordOf (tn + 1))) 112 8 (wordOf v) (by omega)
        rw [putE_small 112 8 v hv0 (by simp; omega) (by decide) (by decide), if_pos rfl, wordOf_bvi hv0 (by omega)] at p2
        have mk := Mask_c 88 40 (by omega)
        rw [show fieldB 88 40 128 = true from by decide, if_pos rfl, if_pos rfl] at mk
        generalize hk1 : ones (40 : Int).toNat <<< (88 : Int).toNat = care at mk
        generalize hk2 : putB 0 (88 : Int).toNat (24 : Int).toNat (wordOf (tn + 1)) = x1 at p1 p2
        generalize hk3 : putB x1 (112 : Int).toNat (8 : Int).toNat (wordOf v) = x2 at p2
        have km := Make_c x2 care
        have r1 := rowPP_at c.tp i
        have r2 := rowP_at (c.tp.getD i []) j
        have l1 := small_at hc.tp i
        generalize edgesT c.tp = l at ed ct
        generalize c.tp.getD i [] = ps at r1 r2 b2 e2 l1
        generalize ps.getD j p0 = p at r2 e2
        obtain ⟨kd, pt, pe, at', co⟩ := p
        simp only [portD] at r2
        simp only [] at e2
        subst e2
        subst e1
        simp only [hd] at p1 p2 mk km
        simp only [hi_zero, lo_zero] at p1
        refine acalls_of_awp Try.func25 rfl (by decide +kernel) (by rw [Try.ntmps25]; simp) ?_; rw [Try.ntmps25]; simp only [frOf]
        (repeat (first | refine awp_seq ?_ | refine awp_yes rfl ?_ | refine awp_no rfl ?_ | refine awp_block ?_ | (refine awp_region fun K hK => ?_) | (refine awp_draw (by kernel_rfl) (by kernel_rfl) fun K hK => ?_) | (refine awp_skip ?_; (first | show AWP _ _ _ _ _ | show loopQ _ _ _ _ _ _ | (simp only [blockQ_n]; first | show AWP _ _ _ _ _ | show loopQ _ _ _ _ _ _))) | (refine awp_exit ?_; (first | show AWP _ _ _ _ _ | show loopQ _ _ _ _ _ _ | (simp only [blockQ_n]; first | show AWP _ _ _ _ _ | show loopQ _ _ _ _ _ _))) | ((first | refine walkS_end (hK _ ?_) | refine walkD_end (hK _ _ (okTrace_spec (by kernel_rfl)) ?_)); clear hK K; (first | show AWP _ _ _ _ _ | show loopQ _ _ _ _ _ _ | (simp only [blockQ_n]; first | show AWP _ _ _ _ _ | show loopQ _ _ _ _ _ _))) | ((first | refine walkS_call3 rfl rfl rfl ?_ | refine walkD_call3 rfl rfl rfl ?_); simp (maxSteps := 2000000) (disch := omega) only [go_sem, ↓reduceIte, reduceCtorEq, Nat.reduceLT, Nat.reducePow, Nat.reduceLeDiff, Nat.reduceAdd, Nat.reduceMul, Nat.reduceSub, Nat.reduceEqDiff, Nat.reduceBEq, Int.reduceToNat, Int.reduceBEq, Int.reduceBNe, ty24, ty26, ty50, ty53, ty46, ty58, ty70, ty94, ty3, ty22, ty4, ty31, ty44, ty54, policyD, topoD, configD, spotD, hd, cb, r1, r2]; (first | refine ⟨_, s1, ?_⟩ | refine ⟨_, ed, ?_⟩ | refine ⟨_, ct, ?_⟩ | refine ⟨_, mk, ?_⟩ | refine ⟨_, p1, ?_⟩ | refine ⟨_, p2, ?_⟩ | refine ⟨_, km, ?_⟩)) | ((first | refine walkS_run1 [] rfl ?_ | refine walkD_run1 [] rfl ?_); simp (maxSteps := 2000000) (disch := omega) only [go_sem, ↓reduceIte, reduceCtorEq, Nat.reduceLT, Nat.reducePow, Nat.reduceLeDiff, Nat.reduceAdd, Nat.reduceMul, Nat.reduceSub, Nat.reduceEqDiff, Nat.reduceBEq, Int.reduceToNat, Int.reduceBEq, Int.reduceBNe, ty24, ty26, ty50, ty53, ty46, ty58, ty70, ty94, ty3, ty22, ty4, ty31, ty44, ty54, policyD, topoD, configD, spotD, hd, cb, r1, r2]; (repeat (first | refine ⟨by omega, ?_⟩ | refine ⟨True.intro, ?_⟩)))))
        refine awp_ret ⟨_, ?_, rfl⟩; rw [Try.results25]; simp (disch := omega) only [ResVars, ResVar, ptrLoc, go_sem, ↓reduceIte, reduceCtorEq, Nat.reduceLT, Nat.reducePow, Nat.reduceLeDiff, Nat.reduceAdd, Nat.reduceMul, Nat.reduceSub, Nat.reduceEqDiff, Nat.reduceBEq, Int.reduceToNat, Int.reduceBEq, Int.reduceBNe, ty24, ty26, ty50, ty53, ty46, ty58, ty70, ty94, ty3, ty22, ty4, ty31, ty44, ty54, policyD, topoD, configD, spotD, hd, cb, r1, r2]
        subst hk3 hk2 hk1
        rfl
  · rw [if_pos h1] at hst
    rw [fail (by rw [hst]; exact h1), hst, cb_none]
    have q : (soundC c != 0) = true := ine_tt h1
    generalize soundC c = e at s1 q
    refine acalls_of_awp Try.func25 rfl (by decide +kernel) (by rw [Try.ntmps25]; simp) ?_; rw [Try.ntmps25]; simp only [frOf]
    (repeat (first | refine awp_seq ?_ | refine awp_yes rfl ?_ | refine awp_no rfl ?_ | refine awp_block ?_ | (refine awp_region fun K hK => ?_) | (refine awp_draw (by kernel_rfl) (by kernel_rfl) fun K hK => ?_) | (refine awp_skip ?_; (first | show AWP _ _ _ _ _ | show loopQ _ _ _ _ _ _ | (simp only [blockQ_n]; first | show AWP _ _ _ _ _ | show loopQ _ _ _ _ _ _))) | (refine awp_exit ?_; (first | show AWP _ _ _ _ _ | show loopQ _ _ _ _ _ _ | (simp only [blockQ_n]; first | show AWP _ _ _ _ _ | show loopQ _ _ _ _ _ _))) | ((first | refine walkS_end (hK _ ?_) | refine walkD_end (hK _ _ (okTrace_spec (by kernel_rfl)) ?_)); clear hK K; (first | show AWP _ _ _ _ _ | show loopQ _ _ _ _ _ _ | (simp only [blockQ_n]; first | show AWP _ _ _ _ _ | show loopQ _ _ _ _ _ _))) | ((first | refine walkS_call3 rfl rfl rfl ?_ | refine walkD_call3 rfl rfl rfl ?_); simp (maxSteps := 2000000) (disch := omega) only [go_sem, ↓reduceIte, reduceCtorEq, Nat.reduceLT, Nat.reducePow, Nat.reduceLeDiff, Nat.reduceAdd, Nat.reduceMul, Nat.reduceSub, Nat.reduceEqDiff, Nat.reduceBEq, Int.reduceToNat, Int.reduceBEq, Int.reduceBNe, ty24, ty26, ty50, ty53, ty46, ty58, ty70, ty94, ty3, ty22, ty4, ty31, ty44, ty54, policyD, topoD, configD, spotD, hd, cb, q]; (first | refine ⟨_, s1, ?_⟩)) | ((first | refine walkS_run1 [] rfl ?_ | refine walkD_run1 [] rfl ?_); simp (maxSteps := 2000000) (disch := omega) only [go_sem, ↓reduceIte, reduceCtorEq, Nat.reduceLT, Nat.reducePow, Nat.reduceLeDiff, Nat.reduceAdd, Nat.reduceMul, Nat.reduceSub, Nat.reduceEqDiff, Nat.reduceBEq, Int.reduceToNat, Int.reduceBEq, Int.reduceBNe, ty24, ty26, ty50, ty53, ty46, ty58, ty70, ty94, ty3, ty22, ty4, ty31, ty44, ty54, policyD, topoD, configD, spotD, hd, cb, q]; (repeat (first | refine ⟨by omega, ?_⟩ | refine ⟨True.intro, ?_⟩)))))
    refine awp_ret ⟨_, ?_, rfl⟩; rw [Try.results25]; simp (disch := omega) only [ResVars, ResVar, ptrLoc, go_sem, ↓reduceIte, reduceCtorEq, Nat.reduceLT, Nat.reducePow, Nat.reduceLeDiff, Nat.reduceAdd, Nat.reduceMul, Nat.reduceSub, Nat.reduceEqDiff, Nat.reduceBEq, Int.reduceToNat, Int.reduceBEq, Int.reduceBNe, ty24, ty26, ty50, ty53, ty46, ty58, ty70, ty94, ty3, ty22, ty4, ty31, ty44, ty54, policyD, topoD, configD, spotD, hd, cb, q]
end Go.Proofs.Ytgfnpkpbebihgaa
