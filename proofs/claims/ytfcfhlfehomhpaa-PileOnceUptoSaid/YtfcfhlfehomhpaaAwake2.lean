/- The simplest facts that every law of layer 2 asks. Conditions: none. -/
import Derived.Test.YtfcfhlfehomhpaaField
set_option linter.unusedSimpArgs false
set_option linter.unusedVariables false
namespace Go.Proofs.Ytfcfhlfehomhpaa
open Go.Proofs.Ytfcfhlfehomhpaa.AL
def cA : Cube := ⟨0xF0, 0xF0⟩
def cB : Cube := ⟨0x33, 0xFF⟩
set_option maxRecDepth 100000 in
set_option maxHeartbeats 2000000 in
theorem awake2_c : ACalls Try.prog 16 [] (· = [.d (.v (.bool true))]) := by
  have f1 := Field_c 0 8 240#64 4 (by omega)
  rw [show bvi 240#64 = 240 from by decide +kernel, show fieldV 0 8 240#64 4 = cA from by decide +kernel, show fieldE 0 8 240#64 4 = 0 from by decide +kernel] at f1
  have f2 := Field_c 0 8 51#64 8 (by omega)
  rw [show bvi 51#64 = 51 from by decide +kernel, show fieldV 0 8 51#64 8 = cB from by decide +kernel, show fieldE 0 8 51#64 8 = 0 from by decide +kernel] at f2
  have f3 := Make_c 1 3
  unfold hd at f3
  rw [show hi 1 = 0 from by decide +kernel, show lo 1 = 1 from by decide +kernel, show hi 3 = 0 from by decide +kernel, show lo 3 = 3 from by decide +kernel] at f3
  have f4 := Less_cube_c cA (mkC 1 3)
  rw [show (lessL cA (mkC 1 3)).length = 2 from by decide +kernel] at f4
  generalize rowC (lessL cA (mkC 1 3)) = rw4 at f4
  have f5 := Meet_c cA cB
  rw [show meetO cA cB = false from by decide +kernel] at f5
  have f6 := Has_c cA 0xF7
  rw [show hasC cA 0xF7 = true from by decide +kernel] at f6
  unfold hd at f6
  rw [show hi 0xF7 = 0 from by decide +kernel, show lo 0xF7 = 247 from by decide +kernel] at f6
  have f7 := Within_c cB ⟨0, 0⟩
  rw [show withinC cB ⟨0, 0⟩ = true from by decide +kernel] at f7
  have f8 := Sound_c cA
  rw [show cA.sound = true from by decide +kernel] at f8
  have e1 : cb cA = [.v (.int .u64 0), .v (.int .u64 240), .v (.int .u64 0), .v (.int .u64 240)] := by
    unfold cb
    rw [show hi cA.v = 0 from by decide +kernel, show lo cA.v = 240 from by decide +kernel, show hi cA.c = 0 from by decide +kernel, show lo cA.c = 240 from by decide +kernel]
  have e2 : cb cB = [.v (.int .u64 0), .v (.int .u64 51), .v (.int .u64 0), .v (.int .u64 255)] := by
    unfold cb
    rw [show hi cB.v = 0 from by decide +kernel, show lo cB.v = 51 from by decide +kernel, show hi cB.c = 0 from by decide +kernel, show lo cB.c = 255 from by decide +kernel]
  generalize meetV cA cB = m5 at f5
  rw [e1] at f1 f4 f5 f6 f8
  rw [e2] at f2 f5 f7
  refine acalls_of_awp Try.func16 rfl (by decide +kernel) (by rw [Try.ntmps16]; simp) ?_; rw [Try.ntmps16]; simp only [frOf]
  (repeat refine awp_seq ?_); (first | refine awp_region fun K hK => ?_ | refine awp_draw (by kernel_rfl) (by kernel_rfl) fun K hK => ?_); (first | refine walkS_run [] _ _ ?_ | refine walkD_run [] _ _ _ ?_); simp (maxSteps := 2000000) (disch := omega) only [go_sem, ↓reduceIte, reduceCtorEq, Nat.reduceLT, Nat.reducePow, Nat.reduceLeDiff, Nat.reduceAdd, Nat.reduceMul, Nat.reduceSub, Nat.reduceEqDiff, Nat.reduceBEq, Int.reduceToNat, Int.reduceBEq, Int.reduceBNe, ty24, ty26, ty36, ty22, ty3, ty52, ty4, ty48, cb, eqty24, eqty26, eqI]; (repeat refine ⟨by omega, ?_⟩); (first | (refine walkS_end (hK _ ?_); clear hK K; show AWP _ _ _ _ _) | (refine walkD_end (hK _ _ (okTrace_spec (by kernel_rfl)) ?_); clear hK K; show AWP _ _ _ _ _))
  (repeat refine awp_seq ?_); (first | refine awp_region fun K hK => ?_ | refine awp_draw (by kernel_rfl) (by kernel_rfl) fun K hK => ?_)
  (first | refine walkS_run [] _ _ ?_ | refine walkD_run [] _ _ _ ?_); simp (maxSteps := 2000000) (disch := omega) only [go_sem, ↓reduceIte, reduceCtorEq, Nat.reduceLT, Nat.reducePow, Nat.reduceLeDiff, Nat.reduceAdd, Nat.reduceMul, Nat.reduceSub, Nat.reduceEqDiff, Nat.reduceBEq, Int.reduceToNat, Int.reduceBEq, Int.reduceBNe, ty24, ty26, ty36, ty22, ty3, ty52, ty4, ty48, cb, eqty24, eqty26, eqI]; (repeat refine ⟨by omega, ?_⟩)
  (first | refine walkS_call3 rfl rfl rfl ?_ | refine walkD_call3 rfl rfl rfl ?_); simp (maxSteps := 2000000) (disch := omega) only [go_sem, ↓reduceIte, reduceCtorEq, Nat.reduceLT, Nat.reducePow, Nat.reduceLeDiff, Nat.reduceAdd, Nat.reduceMul, Nat.reduceSub, Nat.reduceEqDiff, Nat.reduceBEq, Int.reduceToNat, Int.reduceBEq, Int.reduceBNe, ty24, ty26, ty36, ty22, ty3, ty52, ty4, ty48, cb, eqty24, eqty26, eqI]
  refine ⟨_, f1, ?_⟩
  (first | refine walkS_run [] _ _ ?_ | refine walkD_run [] _ _ _ ?_); simp (maxSteps := 2000000) (disch := omega) only [go_sem, ↓reduceIte, reduceCtorEq, Nat.reduceLT, Nat.reducePow, Nat.reduceLeDiff, Nat.reduceAdd, Nat.reduceMul, Nat.reduceSub, Nat.reduceEqDiff, Nat.reduceBEq, Int.reduceToNat, Int.reduceBEq, Int.reduceBNe, ty24, ty26, ty36, ty22, ty3, ty52, ty4, ty48, cb, eqty24, eqty26, eqI]; (repeat refine ⟨by omega, ?_⟩)
  (first | (refine walkS_end (hK _ ?_); clear hK K; show AWP _ _ _ _ _) | (refine walkD_end (hK _ _ (okTrace_spec (by kernel_rfl)) ?_); clear hK K; show AWP _ _ _ _ _))
  (repeat refine awp_seq ?_); (first | refine awp_region fun K hK => ?_ | refine awp_draw (by kernel_rfl) (by kernel_rfl) fun K hK => ?_)
  (first | refine walkS_run [] _ _ ?_ | refine walkD_run [] _ _ _ ?_); simp (maxSteps := 2000000) (disch := omega) only [go_sem, ↓reduceIte, reduceCtorEq, Nat.reduceLT, Nat.reducePow, Nat.reduceLeDiff, Nat.reduceAdd, Nat.reduceMul, Nat.reduceSub, Nat.reduceEqDiff, Nat.reduceBEq, Int.reduceToNat, Int.reduceBEq, Int.reduceBNe, ty24, ty26, ty36, ty22, ty3, ty52, ty4, ty48, cb, eqty24, eqty26, eqI]; (repeat refine ⟨by omega, ?_⟩)
  (first | refine walkS_call3 rfl rfl rfl ?_ | refine walkD_call3 rfl rfl rfl ?_); simp (maxSteps := 2000000) (disch := omega) only [go_sem, ↓reduceIte, reduceCtorEq, Nat.reduceLT, Nat.reducePow, Nat.reduceLeDiff, Nat.reduceAdd, Nat.reduceMul, Nat.reduceSub, Nat.reduceEqDiff, Nat.reduceBEq, Int.reduceToNat, Int.reduceBEq, Int.reduceBNe, ty24, ty26, ty36, ty22, ty3, ty52, ty4, ty48, cb, eqty24, eqty26, eqI]
  refine ⟨_, f2, ?_⟩
  (first | refine walkS_run [] _ _ ?_ | refine walkD_run [] _ _ _ ?_); simp (maxSteps := 2000000) (disch := omega) only [go_sem, ↓reduceIte, reduceCtorEq, Nat.reduceLT, Nat.reducePow, Nat.reduceLeDiff, Nat.reduceAdd, Nat.reduceMul, Nat.reduceSub, Nat.reduceEqDiff, Nat.reduceBEq, Int.reduceToNat, Int.reduceBEq, Int.reduceBNe, ty24, ty26, ty36, ty22, ty3, ty52, ty4, ty48, cb, eqty24, eqty26, eqI]; (repeat refine ⟨by omega, ?_⟩)
  (first | (refine walkS_end (hK _ ?_); clear hK K; show AWP _ _ _ _ _) | (refine walkD_end (hK _ _ (okTrace_spec (by kernel_rfl)) ?_); clear hK K; show AWP _ _ _ _ _))
  (repeat refine awp_seq ?_); (first | refine awp_region fun K hK => ?_ | refine awp_draw (by kernel_rfl) (by kernel_rfl) fun K hK => ?_)
  (first | refine walkS_run [] _ _ ?_ | refine walkD_run [] _ _ _ ?_); simp (maxSteps := 2000000) (disch := omega) only [go_sem, ↓reduceIte, reduceCtorEq, Nat.reduceLT, Nat.reducePow, Nat.reduceLeDiff, Nat.reduceAdd, Nat.reduceMul, Nat.reduceSub, Nat.reduceEqDiff, Nat.reduceBEq, Int.reduceToNat, Int.reduceBEq, Int.reduceBNe, ty24, ty26, ty36, ty22, ty3, ty52, ty4, ty48, cb, eqty24, eqty26, eqI]; (repeat refine ⟨by omega, ?_⟩)
  (first | refine walkS_call3 rfl rfl rfl ?_ | refine walkD_call3 rfl rfl rfl ?_); simp (maxSteps := 2000000) (disch := omega) only [go_sem, ↓reduceIte, reduceCtorEq, Nat.reduceLT, Nat.reducePow, Nat.reduceLeDiff, Nat.reduceAdd, Nat.reduceMul, Nat.reduceSub, Nat.reduceEqDiff, Nat.reduceBEq, Int.reduceToNat, Int.reduceBEq, Int.reduceBNe, ty24, ty26, ty36, ty22, ty3, ty52, ty4, ty48, cb, eqty24, eqty26, eqI]
  refine ⟨_, f3, ?_⟩
  (first | refine walkS_run [] _ _ ?_ | refine walkD_run [] _ _ _ ?_); simp (maxSteps := 2000000) (disch := omega) only [go_sem, ↓reduceIte, reduceCtorEq, Nat.reduceLT, Nat.reducePow, Nat.reduceLeDiff, Nat.reduceAdd, Nat.reduceMul, Nat.reduceSub, Nat.reduceEqDiff, Nat.reduceBEq, Int.reduceToNat, Int.reduceBEq, Int.reduceBNe, ty24, ty26, ty36, ty22, ty3, ty52, ty4, ty48, cb, eqty24, eqty26, eqI]; (repeat refine ⟨by omega, ?_⟩)
  (first | refine walkS_call3 rfl rfl rfl ?_ | refine walkD_call3 rfl rfl rfl ?_); simp (maxSteps := 2000000) (disch := omega) only [go_sem, ↓reduceIte, reduceCtorEq, Nat.reduceLT, Nat.reducePow, Nat.reduceLeDiff, Nat.reduceAdd, Nat.reduceMul, Nat.reduceSub, Nat.reduceEqDiff, Nat.reduceBEq, Int.reduceToNat, Int.reduceBEq, Int.reduceBNe, ty24, ty26, ty36, ty22, ty3, ty52, ty4, ty48, cb, eqty24, eqty26, eqI]
  refine ⟨_, f4, ?_⟩
  (first | refine walkS_run [] _ _ ?_ | refine walkD_run [] _ _ _ ?_); simp (maxSteps := 2000000) (disch := omega) only [go_sem, ↓reduceIte, reduceCtorEq, Nat.reduceLT, Nat.reducePow, Nat.reduceLeDiff, Nat.reduceAdd, Nat.reduceMul, Nat.reduceSub, Nat.reduceEqDiff, Nat.reduceBEq, Int.reduceToNat, Int.reduceBEq, Int.reduceBNe, ty24, ty26, ty36, ty22, ty3, ty52, ty4, ty48, cb, eqty24, eqty26, eqI]; (repeat refine ⟨by omega, ?_⟩)
  (first | (refine walkS_end (hK _ ?_); clear hK K; show AWP _ _ _ _ _) | (refine walkD_end (hK _ _ (okTrace_spec (by kernel_rfl)) ?_); clear hK K; show AWP _ _ _ _ _))
  (repeat refine awp_seq ?_); (first | refine awp_region fun K hK => ?_ | refine awp_draw (by kernel_rfl) (by kernel_rfl) fun K hK => ?_)
  (first | refine walkS_run [] _ _ ?_ | refine walkD_run [] _ _ _ ?_); simp (maxSteps := 2000000) (disch := omega) only [go_sem, ↓reduceIte, reduceCtorEq, Nat.reduceLT, Nat.reducePow, Nat.reduceLeDiff, Nat.reduceAdd, Nat.reduceMul, Nat.reduceSub, Nat.reduceEqDiff, Nat.reduceBEq, Int.reduceToNat, Int.reduceBEq, Int.reduceBNe, ty24, ty26, ty36, ty22, ty3, ty52, ty4, ty48, cb, eqty24, eqty26, eqI]; (repeat refine ⟨by omega, ?_⟩)
  (first | refine walkS_call3 rfl rfl rfl ?_ | refine walkD_call3 rfl rfl rfl ?_); simp (maxSteps := 2000000) (disch := omega) only [go_sem, ↓reduceIte, reduceCtorEq, Nat.reduceLT, Nat.reducePow, Nat.reduceLeDiff, Nat.reduceAdd, Nat.reduceMul, Nat.reduceSub, Nat.reduceEqDiff, Nat.reduceBEq, Int.reduceToNat, Int.reduceBEq, Int.reduceBNe, ty24, ty26, ty36, ty22, ty3, ty52, ty4, ty48, cb, eqty24, eqty26, eqI]
  refine ⟨_, f5, ?_⟩
  (first | refine walkS_run [] _ _ ?_ | refine walkD_run [] _ _ _ ?_); simp (maxSteps := 2000000) (disch := omega) only [go_sem, ↓reduceIte, reduceCtorEq, Nat.reduceLT, Nat.reducePow, Nat.reduceLeDiff, Nat.reduceAdd, Nat.reduceMul, Nat.reduceSub, Nat.reduceEqDiff, Nat.reduceBEq, Int.reduceToNat, Int.reduceBEq, Int.reduceBNe, ty24, ty26, ty36, ty22, ty3, ty52, ty4, ty48, cb, eqty24, eqty26, eqI]; (repeat refine ⟨by omega, ?_⟩)
  (first | (refine walkS_end (hK _ ?_); clear hK K; show AWP _ _ _ _ _) | (refine walkD_end (hK _ _ (okTrace_spec (by kernel_rfl)) ?_); clear hK K; show AWP _ _ _ _ _))
  (repeat refine awp_seq ?_); (first | refine awp_region fun K hK => ?_ | refine awp_draw (by kernel_rfl) (by kernel_rfl) fun K hK => ?_)
  (first | refine walkS_run [] _ _ ?_ | refine walkD_run [] _ _ _ ?_); simp (maxSteps := 2000000) (disch := omega) only [go_sem, ↓reduceIte, reduceCtorEq, Nat.reduceLT, Nat.reducePow, Nat.reduceLeDiff, Nat.reduceAdd, Nat.reduceMul, Nat.reduceSub, Nat.reduceEqDiff, Nat.reduceBEq, Int.reduceToNat, Int.reduceBEq, Int.reduceBNe, ty24, ty26, ty36, ty22, ty3, ty52, ty4, ty48, cb, eqty24, eqty26, eqI]; (repeat refine ⟨by omega, ?_⟩)
  (first | refine walkS_call3 rfl rfl rfl ?_ | refine walkD_call3 rfl rfl rfl ?_); simp (maxSteps := 2000000) (disch := omega) only [go_sem, ↓reduceIte, reduceCtorEq, Nat.reduceLT, Nat.reducePow, Nat.reduceLeDiff, Nat.reduceAdd, Nat.reduceMul, Nat.reduceSub, Nat.reduceEqDiff, Nat.reduceBEq, Int.reduceToNat, Int.reduceBEq, Int.reduceBNe, ty24, ty26, ty36, ty22, ty3, ty52, ty4, ty48, cb, eqty24, eqty26, eqI]
  refine ⟨_, f6, ?_⟩
  (first | refine walkS_run [] _ _ ?_ | refine walkD_run [] _ _ _ ?_); simp (maxSteps := 2000000) (disch := omega) only [go_sem, ↓reduceIte, reduceCtorEq, Nat.reduceLT, Nat.reducePow, Nat.reduceLeDiff, Nat.reduceAdd, Nat.reduceMul, Nat.reduceSub, Nat.reduceEqDiff, Nat.reduceBEq, Int.reduceToNat, Int.reduceBEq, Int.reduceBNe, ty24, ty26, ty36, ty22, ty3, ty52, ty4, ty48, cb, eqty24, eqty26, eqI]; (repeat refine ⟨by omega, ?_⟩)
  (first | refine walkS_call3 rfl rfl rfl ?_ | refine walkD_call3 rfl rfl rfl ?_); simp (maxSteps := 2000000) (disch := omega) only [go_sem, ↓reduceIte, reduceCtorEq, Nat.reduceLT, Nat.reducePow, Nat.reduceLeDiff, Nat.reduceAdd, Nat.reduceMul, Nat.reduceSub, Nat.reduceEqDiff, Nat.reduceBEq, Int.reduceToNat, Int.reduceBEq, Int.reduceBNe, ty24, ty26, ty36, ty22, ty3, ty52, ty4, ty48, cb, eqty24, eqty26, eqI]
  refine ⟨_, All_c, ?_⟩
  (first | refine walkS_run [] _ _ ?_ | refine walkD_run [] _ _ _ ?_); simp (maxSteps := 2000000) (disch := omega) only [go_sem, ↓reduceIte, reduceCtorEq, Nat.reduceLT, Nat.reducePow, Nat.reduceLeDiff, Nat.reduceAdd, Nat.reduceMul, Nat.reduceSub, Nat.reduceEqDiff, Nat.reduceBEq, Int.reduceToNat, Int.reduceBEq, Int.reduceBNe, ty24, ty26, ty36, ty22, ty3, ty52, ty4, ty48, cb, eqty24, eqty26, eqI]; (repeat refine ⟨by omega, ?_⟩)
  (first | refine walkS_call3 rfl rfl rfl ?_ | refine walkD_call3 rfl rfl rfl ?_); simp (maxSteps := 2000000) (disch := omega) only [go_sem, ↓reduceIte, reduceCtorEq, Nat.reduceLT, Nat.reducePow, Nat.reduceLeDiff, Nat.reduceAdd, Nat.reduceMul, Nat.reduceSub, Nat.reduceEqDiff, Nat.reduceBEq, Int.reduceToNat, Int.reduceBEq, Int.reduceBNe, ty24, ty26, ty36, ty22, ty3, ty52, ty4, ty48, cb, eqty24, eqty26, eqI]
  refine ⟨_, f7, ?_⟩
  (first | refine walkS_run [] _ _ ?_ | refine walkD_run [] _ _ _ ?_); simp (maxSteps := 2000000) (disch := omega) only [go_sem, ↓reduceIte, reduceCtorEq, Nat.reduceLT, Nat.reducePow, Nat.reduceLeDiff, Nat.reduceAdd, Nat.reduceMul, Nat.reduceSub, Nat.reduceEqDiff, Nat.reduceBEq, Int.reduceToNat, Int.reduceBEq, Int.reduceBNe, ty24, ty26, ty36, ty22, ty3, ty52, ty4, ty48, cb, eqty24, eqty26, eqI]; (repeat refine ⟨by omega, ?_⟩)
  (first | refine walkS_call3 rfl rfl rfl ?_ | refine walkD_call3 rfl rfl rfl ?_); simp (maxSteps := 2000000) (disch := omega) only [go_sem, ↓reduceIte, reduceCtorEq, Nat.reduceLT, Nat.reducePow, Nat.reduceLeDiff, Nat.reduceAdd, Nat.reduceMul, Nat.reduceSub, Nat.reduceEqDiff, Nat.reduceBEq, Int.reduceToNat, Int.reduceBEq, Int.reduceBNe, ty24, ty26, ty36, ty22, ty3, ty52, ty4, ty48, cb, eqty24, eqty26, eqI]
  refine ⟨_, f8, ?_⟩
  (first | refine walkS_run [] _ _ ?_ | refine walkD_run [] _ _ _ ?_); simp (maxSteps := 2000000) (disch := omega) only [go_sem, ↓reduceIte, reduceCtorEq, Nat.reduceLT, Nat.reducePow, Nat.reduceLeDiff, Nat.reduceAdd, Nat.reduceMul, Nat.reduceSub, Nat.reduceEqDiff, Nat.reduceBEq, Int.reduceToNat, Int.reduceBEq, Int.reduceBNe, ty24, ty26, ty36, ty22, ty3, ty52, ty4, ty48, cb, eqty24, eqty26, eqI]; (repeat refine ⟨by omega, ?_⟩)
  (first | (refine walkS_end (hK _ ?_); clear hK K; show AWP _ _ _ _ _) | (refine walkD_end (hK _ _ (okTrace_spec (by kernel_rfl)) ?_); clear hK K; show AWP _ _ _ _ _))
  refine awp_ret ⟨_, ?_, rfl⟩; rw [Try.results16]; simp (disch := omega) only [ResVars, ResVar, ptrLoc, go_sem, ↓reduceIte, reduceCtorEq, Nat.reduceLT, Nat.reducePow, Nat.reduceLeDiff, Nat.reduceAdd, Nat.reduceMul, Nat.reduceSub, Nat.reduceEqDiff, Nat.reduceBEq, Int.reduceToNat, Int.reduceBEq, Int.reduceBNe, ty24, ty26, ty36, ty22, ty3, ty52, ty4, ty48, cb, eqty24, eqty26, eqI]
end Go.Proofs.Ytfcfhlfehomhpaa
