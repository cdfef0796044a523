/- The document's packages of layers 1: what their functions do. Conditions: none. -/
import Derived.Test.YtfcfhlfehomhpaaCube
set_option linter.unusedSimpArgs false
set_option linter.unusedVariables false
namespace Go.Proofs.Ytfcfhlfehomhpaa
open Go.Proofs.Ytfcfhlfehomhpaa.AL

def bitsI (x : BitVec 128) (i : Fin 129) : ASt := ⟨[(4, .p (.d (.v (.int .i64 (i.val : Int))))), (3, .loc 3 0), (2, .loc 2 0), (1, .p (.d (.bx (hd x))))],
  [(3, .arr 43 128 fun j => .v (.bool (decide (j < i.val) && x.getLsbD j))), (2, .arr 43 128 fun _ => .v (.bool false))]⟩
theorem Bits_c (x : BitVec 128) : ACalls Try.prog 27 [.agg (hd x)] (· = [.arr 128 fun i => .v (.bool (x.getLsbD i))]) := by
  refine acalls_of_awp Try.func27 rfl (by decide +kernel) (by rw [Try.ntmps27]; simp) ?_; rw [Try.ntmps27]; simp only [frOf]
  (repeat refine awp_seq ?_); (first | refine awp_region fun K hK => ?_ | refine awp_draw (by kernel_rfl) (by kernel_rfl) fun K hK => ?_); (first | refine walkS_run [] _ _ ?_ | refine walkD_run [] _ _ _ ?_); simp (maxSteps := 2000000) (disch := omega) only [go_sem, ↓reduceIte, reduceCtorEq, Nat.reduceLT, Nat.reducePow, Nat.reduceLeDiff, Nat.reduceAdd, Nat.reduceMul, Nat.reduceSub, Nat.reduceEqDiff, Nat.reduceBEq, Int.reduceToNat, Int.reduceBEq, Int.reduceBNe, ty24, ty26, ty43, zr43, ty22, ty3, ty52, ty4, hd, cb]; (repeat refine ⟨by omega, ?_⟩); (first | (refine hK _ ?_; clear hK K; show AWP _ _ _ _ _) | (refine hK _ _ (okTrace_spec (by kernel_rfl)) ?_; clear hK K; show AWP _ _ _ _ _))
  (repeat refine awp_seq ?_); (first | refine awp_region fun K hK => ?_ | refine awp_draw (by kernel_rfl) (by kernel_rfl) fun K hK => ?_); (first | refine walkS_run [] _ _ ?_ | refine walkD_run [] _ _ _ ?_); simp (maxSteps := 2000000) (disch := omega) only [go_sem, ↓reduceIte, reduceCtorEq, Nat.reduceLT, Nat.reducePow, Nat.reduceLeDiff, Nat.reduceAdd, Nat.reduceMul, Nat.reduceSub, Nat.reduceEqDiff, Nat.reduceBEq, Int.reduceToNat, Int.reduceBEq, Int.reduceBNe, ty24, ty26, ty43, zr43, ty22, ty3, ty52, ty4, hd, cb]; (repeat refine ⟨by omega, ?_⟩); (first | (refine hK _ ?_; clear hK K; show AWP _ _ _ _ _) | (refine hK _ _ (okTrace_spec (by kernel_rfl)) ?_; clear hK K; show AWP _ _ _ _ _))
  (repeat refine awp_seq ?_); (first | refine awp_region fun K hK => ?_ | refine awp_draw (by kernel_rfl) (by kernel_rfl) fun K hK => ?_); (first | refine walkS_run [] _ _ ?_ | refine walkD_run [] _ _ _ ?_); simp (maxSteps := 2000000) (disch := omega) only [go_sem, ↓reduceIte, reduceCtorEq, Nat.reduceLT, Nat.reducePow, Nat.reduceLeDiff, Nat.reduceAdd, Nat.reduceMul, Nat.reduceSub, Nat.reduceEqDiff, Nat.reduceBEq, Int.reduceToNat, Int.reduceBEq, Int.reduceBNe, ty24, ty26, ty43, zr43, ty22, ty3, ty52, ty4, hd, cb]; (repeat refine ⟨by omega, ?_⟩); (first | (refine hK _ ?_; clear hK K; show AWP _ _ _ _ _) | (refine hK _ _ (okTrace_spec (by kernel_rfl)) ?_; clear hK K; show AWP _ _ _ _ _))
  refine awp_block (awp_loop (bitsI x) (fun i => 128 - i.val) ⟨0, by omega⟩ ?_ (fun i => ?_))
  · unfold bitsI
    refine Weak.list ?_ ?_; (all_goals simp (disch := omega) only [AllF, AllL, le_self, le_top, lle_self, exists_eq_left', Option.some.injEq, go_sem, ↓reduceIte, reduceCtorEq, Nat.reduceLT, Nat.reducePow, Nat.reduceLeDiff, Nat.reduceAdd, Nat.reduceMul, Nat.reduceSub, Nat.reduceEqDiff, Nat.reduceBEq, Int.reduceToNat, Int.reduceBEq, Int.reduceBNe, ty24, ty26, ty43, zr43, ty22, ty3, ty52, ty4, hd, cb]); (all_goals try (first | exact le_eq rfl | (refine le_eq ?_; simp; done)))
    exact ⟨rfl, rfl, fun i _ => by simp⟩
  unfold bitsI
  by_cases hn : i.val < 128
  · (repeat refine awp_seq ?_); (first | refine awp_region fun K hK => ?_ | refine awp_draw (by kernel_rfl) (by kernel_rfl) fun K hK => ?_); (first | refine walkS_run [] _ _ ?_ | refine walkD_run [] _ _ _ ?_); simp (maxSteps := 2000000) (disch := omega) only [go_sem, ↓reduceIte, reduceCtorEq, Nat.reduceLT, Nat.reducePow, Nat.reduceLeDiff, Nat.reduceAdd, Nat.reduceMul, Nat.reduceSub, Nat.reduceEqDiff, Nat.reduceBEq, Int.reduceToNat, Int.reduceBEq, Int.reduceBNe, ty24, ty26, ty43, zr43, ty22, ty3, ty52, ty4, hd, cb]; (repeat refine ⟨by omega, ?_⟩); (first | (refine hK _ ?_; clear hK K; show AWP _ _ _ _ _) | (refine hK _ _ (okTrace_spec (by kernel_rfl)) ?_; clear hK K; show AWP _ _ _ _ _))
    (repeat refine awp_seq ?_); refine awp_cond rfl (fun _ => ?_) (fun ht => absurd ht (by decide))
    refine awp_skip ?_; show AWP _ _ _ _ _
    refine awp_seq (awp_block ?_)
    (repeat refine awp_seq ?_); (first | refine awp_region fun K hK => ?_ | refine awp_draw (by kernel_rfl) (by kernel_rfl) fun K hK => ?_); (first | refine walkS_run [] _ _ ?_ | refine walkD_run [] _ _ _ ?_); simp (maxSteps := 2000000) (disch := omega) only [go_sem, ↓reduceIte, reduceCtorEq, Nat.reduceLT, Nat.reducePow, Nat.reduceLeDiff, Nat.reduceAdd, Nat.reduceMul, Nat.reduceSub, Nat.reduceEqDiff, Nat.reduceBEq, Int.reduceToNat, Int.reduceBEq, Int.reduceBNe, ty24, ty26, ty43, zr43, ty22, ty3, ty52, ty4, hd, cb]; (repeat refine ⟨by omega, ?_⟩); (first | (refine hK _ ?_; clear hK K; show AWP _ _ _ _ _) | (refine hK _ _ (okTrace_spec (by kernel_rfl)) ?_; clear hK K; show AWP _ _ _ _ _))
    by_cases h6 : i.val < 64
    · refine awp_cond rfl (fun _ => ?_) (fun ht => by simp at ht; omega)
      (repeat refine awp_seq ?_); (first | refine awp_region fun K hK => ?_ | refine awp_draw (by kernel_rfl) (by kernel_rfl) fun K hK => ?_); (first | refine walkS_run [] _ _ ?_ | refine walkD_run [] _ _ _ ?_); simp (maxSteps := 2000000) (disch := omega) only [go_sem, ↓reduceIte, reduceCtorEq, Nat.reduceLT, Nat.reducePow, Nat.reduceLeDiff, Nat.reduceAdd, Nat.reduceMul, Nat.reduceSub, Nat.reduceEqDiff, Nat.reduceBEq, Int.reduceToNat, Int.reduceBEq, Int.reduceBNe, ty24, ty26, ty43, zr43, ty22, ty3, ty52, ty4, hd, cb]; (repeat refine ⟨by omega, ?_⟩); (first | (refine hK _ ?_; clear hK K; show AWP _ _ _ _ _) | (refine hK _ _ (okTrace_spec (by kernel_rfl)) ?_; clear hK K; show AWP _ _ _ _ _))
      (repeat refine awp_seq ?_); (first | refine awp_region fun K hK => ?_ | refine awp_draw (by kernel_rfl) (by kernel_rfl) fun K hK => ?_)
      (first | refine walkS_run [] _ _ ?_ | refine walkD_run [] _ _ _ ?_); simp (maxSteps := 2000000) (disch := omega) only [go_sem, ↓reduceIte, reduceCtorEq, Nat.reduceLT, Nat.reducePow, Nat.reduceLeDiff, Nat.reduceAdd, Nat.reduceMul, Nat.reduceSub, Nat.reduceEqDiff, Nat.reduceBEq, Int.reduceToNat, Int.reduceBEq, Int.reduceBNe, ty24, ty26, ty43, zr43, ty22, ty3, ty52, ty4, hd, cb]; (repeat refine ⟨by omega, ?_⟩)
      (first | (refine hK _ ?_; clear hK K; show loopQ _ _ _ _ _ _) | (refine hK _ _ (okTrace_spec (by kernel_rfl)) ?_; clear hK K; show loopQ _ _ _ _ _ _))
      refine ⟨⟨i.val + 1, by omega⟩, by simp only []; omega, ?_⟩
      refine Weak.list ?_ ?_; (all_goals simp (disch := omega) only [AllF, AllL, le_self, le_top, lle_self, exists_eq_left', Option.some.injEq, go_sem, ↓reduceIte, reduceCtorEq, Nat.reduceLT, Nat.reducePow, Nat.reduceLeDiff, Nat.reduceAdd, Nat.reduceMul, Nat.reduceSub, Nat.reduceEqDiff, Nat.reduceBEq, Int.reduceToNat, Int.reduceBEq, Int.reduceBNe, ty24, ty26, ty43, zr43, ty22, ty3, ty52, ty4, hd, cb]); (all_goals try (first | exact le_eq rfl | (refine le_eq ?_; simp; done)))
      · refine ⟨rfl, rfl, fun j hj => ?_⟩
        simp only [rem_lo x i.val h6]
        split
        · rename_i e; subst e; simp
        · rename_i e; simp; by_cases hlt : j < i.val
          · simp [hlt, show j < i.val + 1 from by omega]
          · simp [hlt, show ¬ j < i.val + 1 from by omega]
    · refine awp_cond rfl (fun ht => by simp at ht; omega) (fun _ => ?_)
      (repeat refine awp_seq ?_); (first | refine awp_region fun K hK => ?_ | refine awp_draw (by kernel_rfl) (by kernel_rfl) fun K hK => ?_); (first | refine walkS_run [] _ _ ?_ | refine walkD_run [] _ _ _ ?_); simp (maxSteps := 2000000) (disch := omega) only [go_sem, ↓reduceIte, reduceCtorEq, Nat.reduceLT, Nat.reducePow, Nat.reduceLeDiff, Nat.reduceAdd, Nat.reduceMul, Nat.reduceSub, Nat.reduceEqDiff, Nat.reduceBEq, Int.reduceToNat, Int.reduceBEq, Int.reduceBNe, ty24, ty26, ty43, zr43, ty22, ty3, ty52, ty4, hd, cb]; (repeat refine ⟨by omega, ?_⟩); (first | (refine hK _ ?_; clear hK K; show AWP _ _ _ _ _) | (refine hK _ _ (okTrace_spec (by kernel_rfl)) ?_; clear hK K; show AWP _ _ _ _ _))
      (repeat refine awp_seq ?_); (first | refine awp_region fun K hK => ?_ | refine awp_draw (by kernel_rfl) (by kernel_rfl) fun K hK => ?_)
      (first | refine walkS_run [] _ _ ?_ | refine walkD_run [] _ _ _ ?_); simp (maxSteps := 2000000) (disch := omega) only [go_sem, ↓reduceIte, reduceCtorEq, Nat.reduceLT, Nat.reducePow, Nat.reduceLeDiff, Nat.reduceAdd, Nat.reduceMul, Nat.reduceSub, Nat.reduceEqDiff, Nat.reduceBEq, Int.reduceToNat, Int.reduceBEq, Int.reduceBNe, ty24, ty26, ty43, zr43, ty22, ty3, ty52, ty4, hd, cb]; (repeat refine ⟨by omega, ?_⟩)
      (first | (refine hK _ ?_; clear hK K; show loopQ _ _ _ _ _ _) | (refine hK _ _ (okTrace_spec (by kernel_rfl)) ?_; clear hK K; show loopQ _ _ _ _ _ _))
      refine ⟨⟨i.val + 1, by omega⟩, by simp only []; omega, ?_⟩
      refine Weak.list ?_ ?_; (all_goals simp (disch := omega) only [AllF, AllL, le_self, le_top, lle_self, exists_eq_left', Option.some.injEq, go_sem, ↓reduceIte, reduceCtorEq, Nat.reduceLT, Nat.reducePow, Nat.reduceLeDiff, Nat.reduceAdd, Nat.reduceMul, Nat.reduceSub, Nat.reduceEqDiff, Nat.reduceBEq, Int.reduceToNat, Int.reduceBEq, Int.reduceBNe, ty24, ty26, ty43, zr43, ty22, ty3, ty52, ty4, hd, cb]); (all_goals try (first | exact le_eq rfl | (refine le_eq ?_; simp; done)))
      · refine ⟨rfl, rfl, fun j hj => ?_⟩
        simp only [rem_hi x i.val (by omega) hn]
        split
        · rename_i e; subst e; simp
        · rename_i e; simp; by_cases hlt : j < i.val
          · simp [hlt, show j < i.val + 1 from by omega]
          · simp [hlt, show ¬ j < i.val + 1 from by omega]
  · (repeat refine awp_seq ?_); (first | refine awp_region fun K hK => ?_ | refine awp_draw (by kernel_rfl) (by kernel_rfl) fun K hK => ?_); (first | refine walkS_run [] _ _ ?_ | refine walkD_run [] _ _ _ ?_); simp (maxSteps := 2000000) (disch := omega) only [go_sem, ↓reduceIte, reduceCtorEq, Nat.reduceLT, Nat.reducePow, Nat.reduceLeDiff, Nat.reduceAdd, Nat.reduceMul, Nat.reduceSub, Nat.reduceEqDiff, Nat.reduceBEq, Int.reduceToNat, Int.reduceBEq, Int.reduceBNe, ty24, ty26, ty43, zr43, ty22, ty3, ty52, ty4, hd, cb]; (repeat refine ⟨by omega, ?_⟩); (first | (refine hK _ ?_; clear hK K; show AWP _ _ _ _ _) | (refine hK _ _ (okTrace_spec (by kernel_rfl)) ?_; clear hK K; show AWP _ _ _ _ _))
    refine awp_cond rfl (fun ht => absurd ht (by decide)) (fun _ => ?_)
    refine awp_exit ?_
    show AWP _ _ _ _ _
    (repeat refine awp_seq ?_); (first | refine awp_region fun K hK => ?_ | refine awp_draw (by kernel_rfl) (by kernel_rfl) fun K hK => ?_); (first | refine walkS_run [] _ _ ?_ | refine walkD_run [] _ _ _ ?_); simp (maxSteps := 2000000) (disch := omega) only [go_sem, ↓reduceIte, reduceCtorEq, Nat.reduceLT, Nat.reducePow, Nat.reduceLeDiff, Nat.reduceAdd, Nat.reduceMul, Nat.reduceSub, Nat.reduceEqDiff, Nat.reduceBEq, Int.reduceToNat, Int.reduceBEq, Int.reduceBNe, ty24, ty26, ty43, zr43, ty22, ty3, ty52, ty4, hd, cb]; (repeat refine ⟨by omega, ?_⟩); (first | (refine hK _ ?_; clear hK K; show AWP _ _ _ _ _) | (refine hK _ _ (okTrace_spec (by kernel_rfl)) ?_; clear hK K; show AWP _ _ _ _ _))
    refine awp_ret ⟨_, ?_, rfl⟩; rw [Try.results27]; simp (disch := omega) only [ResVars, ResVar, ptrLoc, go_sem, ↓reduceIte, reduceCtorEq, Nat.reduceLT, Nat.reducePow, Nat.reduceLeDiff, Nat.reduceAdd, Nat.reduceMul, Nat.reduceSub, Nat.reduceEqDiff, Nat.reduceBEq, Int.reduceToNat, Int.reduceBEq, Int.reduceBNe, ty24, ty26, ty43, zr43, ty22, ty3, ty52, ty4, hd, cb]
    simp only [PV.arr.injEq, true_and]
    funext j
    by_cases hlt : j < i.val
    · simp [hlt]
    · simp [hlt, BitVec.getLsbD_of_ge x j (by omega)]

def headI (b : Nat → Bool) (k : Fin 129) : ASt := ⟨[(4, .p (.d (.v (.int .i64 ((k.val : Int) - 1))))), (3, .loc 3 0), (2, .loc 2 0), (1, .p (.d (.bf 128 fun j => .v (.bool (b j)))))],
  [(3, .cells 24 [.p (.d (.v (.int .u64 (num b (max k.val 64) (128 - max k.val 64) : Nat)))), .p (.d (.v (.int .u64 (num b k.val (64 - k.val) : Nat))))]), (2, .cells 24 [.p (.d (.v (.int .u64 0))), .p (.d (.v (.int .u64 0)))])]⟩
theorem Head_c (b : Nat → Bool) : ACalls Try.prog 29 [.arr 128 fun j => .v (.bool (b j))] (· = [.agg (hd (ofBits b))]) := by
  refine acalls_of_awp Try.func29 rfl (by decide +kernel) (by rw [Try.ntmps29]; simp) ?_; rw [Try.ntmps29]; simp only [frOf]
  (repeat refine awp_seq ?_); (first | refine awp_region fun K hK => ?_ | refine awp_draw (by kernel_rfl) (by kernel_rfl) fun K hK => ?_); (first | refine walkS_run [3] _ _ ?_ | refine walkD_run [3] _ _ _ ?_); simp (maxSteps := 2000000) (disch := omega) only [go_sem, ↓reduceIte, reduceCtorEq, Nat.reduceLT, Nat.reducePow, Nat.reduceLeDiff, Nat.reduceAdd, Nat.reduceMul, Nat.reduceSub, Nat.reduceEqDiff, Nat.reduceBEq, Int.reduceToNat, Int.reduceBEq, Int.reduceBNe, ty24, ty26, ty43, zr43, ty22, ty3, ty52, ty4, hd, cb]; (repeat refine ⟨by omega, ?_⟩); (first | (refine hK _ ?_; clear hK K; show AWP _ _ _ _ _) | (refine hK _ _ (okTrace_spec (by kernel_rfl)) ?_; clear hK K; show AWP _ _ _ _ _))
  (repeat refine awp_seq ?_); (first | refine awp_region fun K hK => ?_ | refine awp_draw (by kernel_rfl) (by kernel_rfl) fun K hK => ?_); (first | refine walkS_run [3] _ _ ?_ | refine walkD_run [3] _ _ _ ?_); simp (maxSteps := 2000000) (disch := omega) only [go_sem, ↓reduceIte, reduceCtorEq, Nat.reduceLT, Nat.reducePow, Nat.reduceLeDiff, Nat.reduceAdd, Nat.reduceMul, Nat.reduceSub, Nat.reduceEqDiff, Nat.reduceBEq, Int.reduceToNat, Int.reduceBEq, Int.reduceBNe, ty24, ty26, ty43, zr43, ty22, ty3, ty52, ty4, hd, cb]; (repeat refine ⟨by omega, ?_⟩); (first | (refine hK _ ?_; clear hK K; show AWP _ _ _ _ _) | (refine hK _ _ (okTrace_spec (by kernel_rfl)) ?_; clear hK K; show AWP _ _ _ _ _))
  (repeat refine awp_seq ?_); (first | refine awp_region fun K hK => ?_ | refine awp_draw (by kernel_rfl) (by kernel_rfl) fun K hK => ?_); (first | refine walkS_run [3] _ _ ?_ | refine walkD_run [3] _ _ _ ?_); simp (maxSteps := 2000000) (disch := omega) only [go_sem, ↓reduceIte, reduceCtorEq, Nat.reduceLT, Nat.reducePow, Nat.reduceLeDiff, Nat.reduceAdd, Nat.reduceMul, Nat.reduceSub, Nat.reduceEqDiff, Nat.reduceBEq, Int.reduceToNat, Int.reduceBEq, Int.reduceBNe, ty24, ty26, ty43, zr43, ty22, ty3, ty52, ty4, hd, cb]; (repeat refine ⟨by omega, ?_⟩); (first | (refine hK _ ?_; clear hK K; show AWP _ _ _ _ _) | (refine hK _ _ (okTrace_spec (by kernel_rfl)) ?_; clear hK K; show AWP _ _ _ _ _))
  refine awp_block (awp_loop (headI b) (fun i => i.val) ⟨128, by omega⟩ ?_ (fun k => ?_))
  · unfold headI
    refine Weak.list ?_ ?_; (all_goals simp (disch := omega) only [AllF, AllL, le_self, le_top, lle_self, exists_eq_left', Option.some.injEq, go_sem, ↓reduceIte, reduceCtorEq, Nat.reduceLT, Nat.reducePow, Nat.reduceLeDiff, Nat.reduceAdd, Nat.reduceMul, Nat.reduceSub, Nat.reduceEqDiff, Nat.reduceBEq, Int.reduceToNat, Int.reduceBEq, Int.reduceBNe, ty24, ty26, ty43, zr43, ty22, ty3, ty52, ty4, hd, cb]); (all_goals try (first | exact le_eq rfl | (refine le_eq ?_; simp; done)))
    exact ⟨rfl, rfl, fun i x y h1 h2 => by
        match i with
        | 0 => cases h1; cases h2; exact le_eq rfl
        | 1 => cases h1; cases h2; exact le_eq rfl
        | i + 2 => simp at h1⟩
  unfold headI
  obtain ⟨k, hk⟩ := k
  cases k with
  | zero =>
    (repeat refine awp_seq ?_); (first | refine awp_region fun K hK => ?_ | refine awp_draw (by kernel_rfl) (by kernel_rfl) fun K hK => ?_); (first | refine walkS_run [3] _ _ ?_ | refine walkD_run [3] _ _ _ ?_); simp (maxSteps := 2000000) (disch := omega) only [go_sem, ↓reduceIte, reduceCtorEq, Nat.reduceLT, Nat.reducePow, Nat.reduceLeDiff, Nat.reduceAdd, Nat.reduceMul, Nat.reduceSub, Nat.reduceEqDiff, Nat.reduceBEq, Int.reduceToNat, Int.reduceBEq, Int.reduceBNe, ty24, ty26, ty43, zr43, ty22, ty3, ty52, ty4, hd, cb]; (repeat refine ⟨by omega, ?_⟩); (first | (refine hK _ ?_; clear hK K; show AWP _ _ _ _ _) | (refine hK _ _ (okTrace_spec (by kernel_rfl)) ?_; clear hK K; show AWP _ _ _ _ _))
    refine awp_cond rfl (fun ht => absurd ht (by decide)) (fun _ => ?_)
    refine awp_exit ?_
    show AWP _ _ _ _ _
    (repeat refine awp_seq ?_); (first | refine awp_region fun K hK => ?_ | refine awp_draw (by kernel_rfl) (by kernel_rfl) fun K hK => ?_); (first | refine walkS_run [3] _ _ ?_ | refine walkD_run [3] _ _ _ ?_); simp (maxSteps := 2000000) (disch := omega) only [go_sem, ↓reduceIte, reduceCtorEq, Nat.reduceLT, Nat.reducePow, Nat.reduceLeDiff, Nat.reduceAdd, Nat.reduceMul, Nat.reduceSub, Nat.reduceEqDiff, Nat.reduceBEq, Int.reduceToNat, Int.reduceBEq, Int.reduceBNe, ty24, ty26, ty43, zr43, ty22, ty3, ty52, ty4, hd, cb]; (repeat refine ⟨by omega, ?_⟩); (first | (refine hK _ ?_; clear hK K; show AWP _ _ _ _ _) | (refine hK _ _ (okTrace_spec (by kernel_rfl)) ?_; clear hK K; show AWP _ _ _ _ _))
    refine awp_ret ⟨_, ?_, rfl⟩; rw [Try.results29]; simp (disch := omega) only [ResVars, ResVar, ptrLoc, go_sem, ↓reduceIte, reduceCtorEq, Nat.reduceLT, Nat.reducePow, Nat.reduceLeDiff, Nat.reduceAdd, Nat.reduceMul, Nat.reduceSub, Nat.reduceEqDiff, Nat.reduceBEq, Int.reduceToNat, Int.reduceBEq, Int.reduceBNe, ty24, ty26, ty43, zr43, ty22, ty3, ty52, ty4, hd, cb]
    rw [hi_ofBits, lo_ofBits]
    rfl
  | succ n =>
    have n1 := num_lt63 b (n + 1) (64 - (n + 1)) (by omega)
    have n2 : 64 ≤ n → num b (max (n + 1) 64) (128 - max (n + 1) 64) < 9223372036854775808 := fun h => num_lt63 b _ _ (by omega)
    cases hb : b n
    all_goals
      simp only [cs1]
      (repeat refine awp_seq ?_); (first | refine awp_region fun K hK => ?_ | refine awp_draw (by kernel_rfl) (by kernel_rfl) fun K hK => ?_); (first | refine walkS_run [3] _ _ ?_ | refine walkD_run [3] _ _ _ ?_); simp (maxSteps := 2000000) (disch := omega) only [go_sem, ↓reduceIte, reduceCtorEq, Nat.reduceLT, Nat.reducePow, Nat.reduceLeDiff, Nat.reduceAdd, Nat.reduceMul, Nat.reduceSub, Nat.reduceEqDiff, Nat.reduceBEq, Int.reduceToNat, Int.reduceBEq, Int.reduceBNe, ty24, ty26, ty43, zr43, ty22, ty3, ty52, ty4, hd, cb, hb]; (repeat refine ⟨by omega, ?_⟩); (first | (refine hK _ ?_; clear hK K; show AWP _ _ _ _ _) | (refine hK _ _ (okTrace_spec (by kernel_rfl)) ?_; clear hK K; show AWP _ _ _ _ _))
      (repeat refine awp_seq ?_); refine awp_cond rfl (fun _ => ?_) (fun ht => absurd ht (by decide))
      refine awp_skip ?_; show AWP _ _ _ _ _
      refine awp_seq (awp_block ?_)
      (repeat refine awp_seq ?_); (first | refine awp_region fun K hK => ?_ | refine awp_draw (by kernel_rfl) (by kernel_rfl) fun K hK => ?_); (first | refine walkS_run [3] _ _ ?_ | refine walkD_run [3] _ _ _ ?_); simp (maxSteps := 2000000) (disch := omega) only [go_sem, ↓reduceIte, reduceCtorEq, Nat.reduceLT, Nat.reducePow, Nat.reduceLeDiff, Nat.reduceAdd, Nat.reduceMul, Nat.reduceSub, Nat.reduceEqDiff, Nat.reduceBEq, Int.reduceToNat, Int.reduceBEq, Int.reduceBNe, ty24, ty26, ty43, zr43, ty22, ty3, ty52, ty4, hd, cb, hb]; (repeat refine ⟨by omega, ?_⟩); (first | (refine hK _ ?_; clear hK K; show AWP _ _ _ _ _) | (refine hK _ _ (okTrace_spec (by kernel_rfl)) ?_; clear hK K; show AWP _ _ _ _ _))
      (repeat refine awp_seq ?_); (first | refine awp_region fun K hK => ?_ | refine awp_draw (by kernel_rfl) (by kernel_rfl) fun K hK => ?_); (first | refine walkS_run [3] _ _ ?_ | refine walkD_run [3] _ _ _ ?_); simp (maxSteps := 2000000) (disch := omega) only [go_sem, ↓reduceIte, reduceCtorEq, Nat.reduceLT, Nat.reducePow, Nat.reduceLeDiff, Nat.reduceAdd, Nat.reduceMul, Nat.reduceSub, Nat.reduceEqDiff, Nat.reduceBEq, Int.reduceToNat, Int.reduceBEq, Int.reduceBNe, ty24, ty26, ty43, zr43, ty22, ty3, ty52, ty4, hd, cb, hb]; (repeat refine ⟨by omega, ?_⟩); (first | (refine hK _ ?_; clear hK K; show AWP _ _ _ _ _) | (refine hK _ _ (okTrace_spec (by kernel_rfl)) ?_; clear hK K; show AWP _ _ _ _ _))
    · (repeat refine awp_seq ?_); refine awp_cond rfl (fun ht => absurd ht (by decide)) (fun _ => ?_); refine awp_skip ?_; show AWP _ _ _ _ _
      (repeat refine awp_seq ?_); (first | refine awp_region fun K hK => ?_ | refine awp_draw (by kernel_rfl) (by kernel_rfl) fun K hK => ?_); (first | refine walkS_run [3] _ _ ?_ | refine walkD_run [3] _ _ _ ?_); simp (maxSteps := 2000000) (disch := omega) only [go_sem, ↓reduceIte, reduceCtorEq, Nat.reduceLT, Nat.reducePow, Nat.reduceLeDiff, Nat.reduceAdd, Nat.reduceMul, Nat.reduceSub, Nat.reduceEqDiff, Nat.reduceBEq, Int.reduceToNat, Int.reduceBEq, Int.reduceBNe, ty24, ty26, ty43, zr43, ty22, ty3, ty52, ty4, hd, cb, hb]; (repeat refine ⟨by omega, ?_⟩); (first | (refine hK _ ?_; clear hK K; show AWP _ _ _ _ _) | (refine hK _ _ (okTrace_spec (by kernel_rfl)) ?_; clear hK K; show AWP _ _ _ _ _))
      by_cases h6 : n < 64
      · refine awp_cond rfl (fun _ => ?_) (fun ht => by simp at ht; omega)
        (repeat refine awp_seq ?_); (first | refine awp_region fun K hK => ?_ | refine awp_draw (by kernel_rfl) (by kernel_rfl) fun K hK => ?_); (first | refine walkS_run [3] _ _ ?_ | refine walkD_run [3] _ _ _ ?_); simp (maxSteps := 2000000) (disch := omega) only [go_sem, ↓reduceIte, reduceCtorEq, Nat.reduceLT, Nat.reducePow, Nat.reduceLeDiff, Nat.reduceAdd, Nat.reduceMul, Nat.reduceSub, Nat.reduceEqDiff, Nat.reduceBEq, Int.reduceToNat, Int.reduceBEq, Int.reduceBNe, ty24, ty26, ty43, zr43, ty22, ty3, ty52, ty4, hd, cb, hb]; (repeat refine ⟨by omega, ?_⟩); (first | (refine hK _ ?_; clear hK K; show AWP _ _ _ _ _) | (refine hK _ _ (okTrace_spec (by kernel_rfl)) ?_; clear hK K; show AWP _ _ _ _ _))
        (repeat refine awp_seq ?_); (first | refine awp_region fun K hK => ?_ | refine awp_draw (by kernel_rfl) (by kernel_rfl) fun K hK => ?_)
        (first | refine walkS_run [3] _ _ ?_ | refine walkD_run [3] _ _ _ ?_); simp (maxSteps := 2000000) (disch := omega) only [go_sem, ↓reduceIte, reduceCtorEq, Nat.reduceLT, Nat.reducePow, Nat.reduceLeDiff, Nat.reduceAdd, Nat.reduceMul, Nat.reduceSub, Nat.reduceEqDiff, Nat.reduceBEq, Int.reduceToNat, Int.reduceBEq, Int.reduceBNe, ty24, ty26, ty43, zr43, ty22, ty3, ty52, ty4, hd, cb, hb]; (repeat refine ⟨by omega, ?_⟩)
        (first | (refine hK _ ?_; clear hK K; show loopQ _ _ _ _ _ _) | (refine hK _ _ (okTrace_spec (by kernel_rfl)) ?_; clear hK K; show loopQ _ _ _ _ _ _))
        refine ⟨⟨n, by omega⟩, by simp only []; omega, ?_⟩
        refine Weak.list ?_ ?_; (all_goals simp (disch := omega) only [AllF, AllL, le_self, le_top, lle_self, exists_eq_left', Option.some.injEq, go_sem, ↓reduceIte, reduceCtorEq, Nat.reduceLT, Nat.reducePow, Nat.reduceLeDiff, Nat.reduceAdd, Nat.reduceMul, Nat.reduceSub, Nat.reduceEqDiff, Nat.reduceBEq, Int.reduceToNat, Int.reduceBEq, Int.reduceBNe, ty24, ty26, ty43, zr43, ty22, ty3, ty52, ty4, hd, cb, hb]); (all_goals try (first | exact le_eq rfl | (refine le_eq ?_; simp; done)))
        exact ⟨rfl, rfl, fun i x y h1 h2 => by
          match i with
          | 0 => cases h1; cases h2; refine le_eq ?_; simp only [Nat.max_eq_right (show n + 1 ≤ 64 from by omega), Nat.max_eq_right (show n ≤ 64 from by omega)]
          | 1 => cases h1; cases h2; refine le_eq ?_; rw [show 64 - n = (64 - (n + 1)) + 1 from by omega]; simp only [num, hb, if_true, if_false, Bool.false_eq_true]; congr 4; omega
          | i + 2 => simp at h1⟩
      · have n2 := n2 (by omega)
        refine awp_cond rfl (fun ht => by simp at ht; omega) (fun _ => ?_)
        (repeat refine awp_seq ?_); (first | refine awp_region fun K hK => ?_ | refine awp_draw (by kernel_rfl) (by kernel_rfl) fun K hK => ?_); (first | refine walkS_run [3] _ _ ?_ | refine walkD_run [3] _ _ _ ?_); simp (maxSteps := 2000000) (disch := omega) only [go_sem, ↓reduceIte, reduceCtorEq, Nat.reduceLT, Nat.reducePow, Nat.reduceLeDiff, Nat.reduceAdd, Nat.reduceMul, Nat.reduceSub, Nat.reduceEqDiff, Nat.reduceBEq, Int.reduceToNat, Int.reduceBEq, Int.reduceBNe, ty24, ty26, ty43, zr43, ty22, ty3, ty52, ty4, hd, cb, hb]; (repeat refine ⟨by omega, ?_⟩); (first | (refine hK _ ?_; clear hK K; show AWP _ _ _ _ _) | (refine hK _ _ (okTrace_spec (by kernel_rfl)) ?_; clear hK K; show AWP _ _ _ _ _))
        (repeat refine awp_seq ?_); (first | refine awp_region fun K hK => ?_ | refine awp_draw (by kernel_rfl) (by kernel_rfl) fun K hK => ?_)
        (first | refine walkS_run [3] _ _ ?_ | refine walkD_run [3] _ _ _ ?_); simp (maxSteps := 2000000) (disch := omega) only [go_sem, ↓reduceIte, reduceCtorEq, Nat.reduceLT, Nat.reducePow, Nat.reduceLeDiff, Nat.reduceAdd, Nat.reduceMul, Nat.reduceSub, Nat.reduceEqDiff, Nat.reduceBEq, Int.reduceToNat, Int.reduceBEq, Int.reduceBNe, ty24, ty26, ty43, zr43, ty22, ty3, ty52, ty4, hd, cb, hb]; (repeat refine ⟨by omega, ?_⟩)
        (first | (refine hK _ ?_; clear hK K; show loopQ _ _ _ _ _ _) | (refine hK _ _ (okTrace_spec (by kernel_rfl)) ?_; clear hK K; show loopQ _ _ _ _ _ _))
        refine ⟨⟨n, by omega⟩, by simp only []; omega, ?_⟩
        refine Weak.list ?_ ?_; (all_goals simp (disch := omega) only [AllF, AllL, le_self, le_top, lle_self, exists_eq_left', Option.some.injEq, go_sem, ↓reduceIte, reduceCtorEq, Nat.reduceLT, Nat.reducePow, Nat.reduceLeDiff, Nat.reduceAdd, Nat.reduceMul, Nat.reduceSub, Nat.reduceEqDiff, Nat.reduceBEq, Int.reduceToNat, Int.reduceBEq, Int.reduceBNe, ty24, ty26, ty43, zr43, ty22, ty3, ty52, ty4, hd, cb, hb]); (all_goals try (first | exact le_eq rfl | (refine le_eq ?_; simp; done)))
        exact ⟨rfl, rfl, fun i x y h1 h2 => by
          match i with
          | 0 => cases h1; cases h2; refine le_eq ?_; rw [Nat.max_eq_left (show 64 ≤ n + 1 from by omega), Nat.max_eq_left (show 64 ≤ n from by omega), show 128 - n = (128 - (n + 1)) + 1 from by omega]; simp only [num, hb, if_true, if_false, Bool.false_eq_true]; congr 4; omega
          | 1 => cases h1; cases h2; refine le_eq ?_; rw [show 64 - n = 0 from by omega, show 64 - (n + 1) = 0 from by omega]; rfl
          | i + 2 => simp at h1⟩
    · (repeat refine awp_seq ?_); refine awp_cond rfl (fun _ => ?_) (fun ht => absurd ht (by decide))
      (repeat refine awp_seq ?_); (first | refine awp_region fun K hK => ?_ | refine awp_draw (by kernel_rfl) (by kernel_rfl) fun K hK => ?_); (first | refine walkS_run [3] _ _ ?_ | refine walkD_run [3] _ _ _ ?_); simp (maxSteps := 2000000) (disch := omega) only [go_sem, ↓reduceIte, reduceCtorEq, Nat.reduceLT, Nat.reducePow, Nat.reduceLeDiff, Nat.reduceAdd, Nat.reduceMul, Nat.reduceSub, Nat.reduceEqDiff, Nat.reduceBEq, Int.reduceToNat, Int.reduceBEq, Int.reduceBNe, ty24, ty26, ty43, zr43, ty22, ty3, ty52, ty4, hd, cb, hb]; (repeat refine ⟨by omega, ?_⟩); (first | (refine hK _ ?_; clear hK K; show AWP _ _ _ _ _) | (refine hK _ _ (okTrace_spec (by kernel_rfl)) ?_; clear hK K; show AWP _ _ _ _ _))
      (repeat refine awp_seq ?_); (first | refine awp_region fun K hK => ?_ | refine awp_draw (by kernel_rfl) (by kernel_rfl) fun K hK => ?_); (first | refine walkS_run [3] _ _ ?_ | refine walkD_run [3] _ _ _ ?_); simp (maxSteps := 2000000) (disch := omega) only [go_sem, ↓reduceIte, reduceCtorEq, Nat.reduceLT, Nat.reducePow, Nat.reduceLeDiff, Nat.reduceAdd, Nat.reduceMul, Nat.reduceSub, Nat.reduceEqDiff, Nat.reduceBEq, Int.reduceToNat, Int.reduceBEq, Int.reduceBNe, ty24, ty26, ty43, zr43, ty22, ty3, ty52, ty4, hd, cb, hb]; (repeat refine ⟨by omega, ?_⟩); (first | (refine hK _ ?_; clear hK K; show AWP _ _ _ _ _) | (refine hK _ _ (okTrace_spec (by kernel_rfl)) ?_; clear hK K; show AWP _ _ _ _ _))
      by_cases h6 : n < 64
      · refine awp_cond rfl (fun _ => ?_) (fun ht => by simp at ht; omega)
        (repeat refine awp_seq ?_); (first | refine awp_region fun K hK => ?_ | refine awp_draw (by kernel_rfl) (by kernel_rfl) fun K hK => ?_); (first | refine walkS_run [3] _ _ ?_ | refine walkD_run [3] _ _ _ ?_); simp (maxSteps := 2000000) (disch := omega) only [go_sem, ↓reduceIte, reduceCtorEq, Nat.reduceLT, Nat.reducePow, Nat.reduceLeDiff, Nat.reduceAdd, Nat.reduceMul, Nat.reduceSub, Nat.reduceEqDiff, Nat.reduceBEq, Int.reduceToNat, Int.reduceBEq, Int.reduceBNe, ty24, ty26, ty43, zr43, ty22, ty3, ty52, ty4, hd, cb, hb]; (repeat refine ⟨by omega, ?_⟩); (first | (refine hK _ ?_; clear hK K; show AWP _ _ _ _ _) | (refine hK _ _ (okTrace_spec (by kernel_rfl)) ?_; clear hK K; show AWP _ _ _ _ _))
        (repeat refine awp_seq ?_); (first | refine awp_region fun K hK => ?_ | refine awp_draw (by kernel_rfl) (by kernel_rfl) fun K hK => ?_)
        (first | refine walkS_run [3] _ _ ?_ | refine walkD_run [3] _ _ _ ?_); simp (maxSteps := 2000000) (disch := omega) only [go_sem, ↓reduceIte, reduceCtorEq, Nat.reduceLT, Nat.reducePow, Nat.reduceLeDiff, Nat.reduceAdd, Nat.reduceMul, Nat.reduceSub, Nat.reduceEqDiff, Nat.reduceBEq, Int.reduceToNat, Int.reduceBEq, Int.reduceBNe, ty24, ty26, ty43, zr43, ty22, ty3, ty52, ty4, hd, cb, hb]; (repeat refine ⟨by omega, ?_⟩)
        (first | (refine hK _ ?_; clear hK K; show loopQ _ _ _ _ _ _) | (refine hK _ _ (okTrace_spec (by kernel_rfl)) ?_; clear hK K; show loopQ _ _ _ _ _ _))
        refine ⟨⟨n, by omega⟩, by simp only []; omega, ?_⟩
        refine Weak.list ?_ ?_; (all_goals simp (disch := omega) only [AllF, AllL, le_self, le_top, lle_self, exists_eq_left', Option.some.injEq, go_sem, ↓reduceIte, reduceCtorEq, Nat.reduceLT, Nat.reducePow, Nat.reduceLeDiff, Nat.reduceAdd, Nat.reduceMul, Nat.reduceSub, Nat.reduceEqDiff, Nat.reduceBEq, Int.reduceToNat, Int.reduceBEq, Int.reduceBNe, ty24, ty26, ty43, zr43, ty22, ty3, ty52, ty4, hd, cb, hb]); (all_goals try (first | exact le_eq rfl | (refine le_eq ?_; simp; done)))
        exact ⟨rfl, rfl, fun i x y h1 h2 => by
          match i with
          | 0 => cases h1; cases h2; refine le_eq ?_; simp only [Nat.max_eq_right (show n + 1 ≤ 64 from by omega), Nat.max_eq_right (show n ≤ 64 from by omega)]
          | 1 => cases h1; cases h2; refine le_eq ?_; rw [show 64 - n = (64 - (n + 1)) + 1 from by omega]; simp only [num, hb, if_true, if_false, Bool.false_eq_true]; congr 4; omega
          | i + 2 => simp at h1⟩
      · have n2 := n2 (by omega)
        refine awp_cond rfl (fun ht => by simp at ht; omega) (fun _ => ?_)
        (repeat refine awp_seq ?_); (first | refine awp_region fun K hK => ?_ | refine awp_draw (by kernel_rfl) (by kernel_rfl) fun K hK => ?_); (first | refine walkS_run [3] _ _ ?_ | refine walkD_run [3] _ _ _ ?_); simp (maxSteps := 2000000) (disch := omega) only [go_sem, ↓reduceIte, reduceCtorEq, Nat.reduceLT, Nat.reducePow, Nat.reduceLeDiff, Nat.reduceAdd, Nat.reduceMul, Nat.reduceSub, Nat.reduceEqDiff, Nat.reduceBEq, Int.reduceToNat, Int.reduceBEq, Int.reduceBNe, ty24, ty26, ty43, zr43, ty22, ty3, ty52, ty4, hd, cb, hb]; (repeat refine ⟨by omega, ?_⟩); (first | (refine hK _ ?_; clear hK K; show AWP _ _ _ _ _) | (refine hK _ _ (okTrace_spec (by kernel_rfl)) ?_; clear hK K; show AWP _ _ _ _ _))
        (repeat refine awp_seq ?_); (first | refine awp_region fun K hK => ?_ | refine awp_draw (by kernel_rfl) (by kernel_rfl) fun K hK => ?_)
        (first | refine walkS_run [3] _ _ ?_ | refine walkD_run [3] _ _ _ ?_); simp (maxSteps := 2000000) (disch := omega) only [go_sem, ↓reduceIte, reduceCtorEq, Nat.reduceLT, Nat.reducePow, Nat.reduceLeDiff, Nat.reduceAdd, Nat.reduceMul, Nat.reduceSub, Nat.reduceEqDiff, Nat.reduceBEq, Int.reduceToNat, Int.reduceBEq, Int.reduceBNe, ty24, ty26, ty43, zr43, ty22, ty3, ty52, ty4, hd, cb, hb]; (repeat refine ⟨by omega, ?_⟩)
        (first | (refine hK _ ?_; clear hK K; show loopQ _ _ _ _ _ _) | (refine hK _ _ (okTrace_spec (by kernel_rfl)) ?_; clear hK K; show loopQ _ _ _ _ _ _))
        refine ⟨⟨n, by omega⟩, by simp only []; omega, ?_⟩
        refine Weak.list ?_ ?_; (all_goals simp (disch := omega) only [AllF, AllL, le_self, le_top, lle_self, exists_eq_left', Option.some.injEq, go_sem, ↓reduceIte, reduceCtorEq, Nat.reduceLT, Nat.reducePow, Nat.reduceLeDiff, Nat.reduceAdd, Nat.reduceMul, Nat.reduceSub, Nat.reduceEqDiff, Nat.reduceBEq, Int.reduceToNat, Int.reduceBEq, Int.reduceBNe, ty24, ty26, ty43, zr43, ty22, ty3, ty52, ty4, hd, cb, hb]); (all_goals try (first | exact le_eq rfl | (refine le_eq ?_; simp; done)))
        exact ⟨rfl, rfl, fun i x y h1 h2 => by
          match i with
          | 0 => cases h1; cases h2; refine le_eq ?_; rw [Nat.max_eq_left (show 64 ≤ n + 1 from by omega), Nat.max_eq_left (show 64 ≤ n from by omega), show 128 - n = (128 - (n + 1)) + 1 from by omega]; simp only [num, hb, if_true, if_false, Bool.false_eq_true]; congr 4; omega
          | 1 => cases h1; cases h2; refine le_eq ?_; rw [show 64 - n = 0 from by omega, show 64 - (n + 1) = 0 from by omega]; rfl
          | i + 2 => simp at h1⟩
end Go.Proofs.Ytfcfhlfehomhpaa
