/- The document's package of layer 2: what its functions do. Conditions: none. -/
import Derived.Test.YtfcfhlfehomhpaaRef1
set_option linter.unusedSimpArgs false
set_option linter.unusedVariables false
namespace Go.Proofs.Ytfcfhlfehomhpaa
open Go.Proofs.Ytfcfhlfehomhpaa.AL

def textI (k : Cube) (s : {i : Fin 129 // ∀ j, j < i.val → k.v.getLsbD j = true → k.c.getLsbD j = true}) : ASt :=
  ⟨[(7, .p (.d (.v (.int .i64 (s.val.val : Int))))), (6, .row 15 1 0 128), (5, .loc 5 0), (4, .loc 4 0)],
   [(15, .arr 5 128 fun j => .v (.int .u8 (if 127 - j < s.val.val then chI k (127 - j) else 0))), (5, .arr 43 128 fun j => .v (.bool (k.c.getLsbD j))), (4, .arr 43 128 fun j => .v (.bool (k.v.getLsbD j)))]⟩
theorem text_step (k : Cube) (c : Int) (i j : Nat) (hi : i < 128) (hj : j < 128) (hc : chI k i = c) :
    (if j = 127 - i then Dat.v (.int .u8 c) else Dat.v (.int .u8 (if 127 - j < i then chI k (127 - j) else 0))) = Dat.v (.int .u8 (if 127 - j < i + 1 then chI k (127 - j) else 0)) := by
  by_cases h : j = 127 - i
  · rw [if_pos h, if_pos (by omega), show 127 - j = i from by omega, hc]
  · rw [if_neg h]
    by_cases h2 : 127 - j < i
    · rw [if_pos h2, if_pos (by omega)]
    · rw [if_neg h2, if_neg (by omega)]
theorem Text_c (k : Cube) : ACalls Try.prog 15 [.agg (cb k)] (· = [.d (.v (.string (if k.sound then txt k else ⟨#[]⟩))), .d (.v (.bool k.sound))]) := by
  refine acalls_of_awp Try.func15 rfl (by decide +kernel) (by rw [Try.ntmps15]; simp) ?_; rw [Try.ntmps15]; simp only [frOf]
  (repeat refine awp_seq ?_); (first | refine awp_region fun K hK => ?_ | refine awp_draw (by kernel_rfl) (by kernel_rfl) fun K hK => ?_); (first | refine walkS_run [] _ _ ?_ | refine walkD_run [] _ _ _ ?_); simp (maxSteps := 2000000) (disch := omega) only [go_sem, ↓reduceIte, reduceCtorEq, Nat.reduceLT, Nat.reducePow, Nat.reduceLeDiff, Nat.reduceAdd, Nat.reduceMul, Nat.reduceSub, Nat.reduceEqDiff, Nat.reduceBEq, Int.reduceToNat, Int.reduceBEq, Int.reduceBNe, ty24, ty26, ty43, zr43, ty22, ty3, ty52, ty4, ty5, ty75, ty9, hd, cb]; (repeat refine ⟨by omega, ?_⟩); (first | (refine walkS_end (hK _ ?_); clear hK K; show AWP _ _ _ _ _) | (refine walkD_end (hK _ _ (okTrace_spec (by kernel_rfl)) ?_); clear hK K; show AWP _ _ _ _ _))
  (repeat refine awp_seq ?_); (first | refine awp_region fun K hK => ?_ | refine awp_draw (by kernel_rfl) (by kernel_rfl) fun K hK => ?_)
  (first | refine walkS_run [] _ _ ?_ | refine walkD_run [] _ _ _ ?_); simp (maxSteps := 2000000) (disch := omega) only [go_sem, ↓reduceIte, reduceCtorEq, Nat.reduceLT, Nat.reducePow, Nat.reduceLeDiff, Nat.reduceAdd, Nat.reduceMul, Nat.reduceSub, Nat.reduceEqDiff, Nat.reduceBEq, Int.reduceToNat, Int.reduceBEq, Int.reduceBNe, ty24, ty26, ty43, zr43, ty22, ty3, ty52, ty4, ty5, ty75, ty9, hd, cb]; (repeat refine ⟨by omega, ?_⟩)
  (first | refine walkS_call3 rfl rfl rfl ?_ | refine walkD_call3 rfl rfl rfl ?_); simp (maxSteps := 2000000) (disch := omega) only [go_sem, ↓reduceIte, reduceCtorEq, Nat.reduceLT, Nat.reducePow, Nat.reduceLeDiff, Nat.reduceAdd, Nat.reduceMul, Nat.reduceSub, Nat.reduceEqDiff, Nat.reduceBEq, Int.reduceToNat, Int.reduceBEq, Int.reduceBNe, ty24, ty26, ty43, zr43, ty22, ty3, ty52, ty4, ty5, ty75, ty9, hd, cb]
  refine ⟨_, Bits_c k.v, ?_⟩
  (first | refine walkS_run [] _ _ ?_ | refine walkD_run [] _ _ _ ?_); simp (maxSteps := 2000000) (disch := omega) only [go_sem, ↓reduceIte, reduceCtorEq, Nat.reduceLT, Nat.reducePow, Nat.reduceLeDiff, Nat.reduceAdd, Nat.reduceMul, Nat.reduceSub, Nat.reduceEqDiff, Nat.reduceBEq, Int.reduceToNat, Int.reduceBEq, Int.reduceBNe, ty24, ty26, ty43, zr43, ty22, ty3, ty52, ty4, ty5, ty75, ty9, hd, cb]; (repeat refine ⟨by omega, ?_⟩)
  (first | refine walkS_call3 rfl rfl rfl ?_ | refine walkD_call3 rfl rfl rfl ?_); simp (maxSteps := 2000000) (disch := omega) only [go_sem, ↓reduceIte, reduceCtorEq, Nat.reduceLT, Nat.reducePow, Nat.reduceLeDiff, Nat.reduceAdd, Nat.reduceMul, Nat.reduceSub, Nat.reduceEqDiff, Nat.reduceBEq, Int.reduceToNat, Int.reduceBEq, Int.reduceBNe, ty24, ty26, ty43, zr43, ty22, ty3, ty52, ty4, ty5, ty75, ty9, hd, cb]
  refine ⟨_, Bits_c k.c, ?_⟩
  (first | refine walkS_run [] _ _ ?_ | refine walkD_run [] _ _ _ ?_); simp (maxSteps := 2000000) (disch := omega) only [go_sem, ↓reduceIte, reduceCtorEq, Nat.reduceLT, Nat.reducePow, Nat.reduceLeDiff, Nat.reduceAdd, Nat.reduceMul, Nat.reduceSub, Nat.reduceEqDiff, Nat.reduceBEq, Int.reduceToNat, Int.reduceBEq, Int.reduceBNe, ty24, ty26, ty43, zr43, ty22, ty3, ty52, ty4, ty5, ty75, ty9, hd, cb]; (repeat refine ⟨by omega, ?_⟩)
  (first | (refine walkS_end (hK _ ?_); clear hK K; show AWP _ _ _ _ _) | (refine walkD_end (hK _ _ (okTrace_spec (by kernel_rfl)) ?_); clear hK K; show AWP _ _ _ _ _))
  (repeat refine awp_seq ?_); (first | refine awp_region fun K hK => ?_ | refine awp_draw (by kernel_rfl) (by kernel_rfl) fun K hK => ?_); (first | refine walkS_run [] _ _ ?_ | refine walkD_run [] _ _ _ ?_); simp (maxSteps := 2000000) (disch := omega) only [go_sem, ↓reduceIte, reduceCtorEq, Nat.reduceLT, Nat.reducePow, Nat.reduceLeDiff, Nat.reduceAdd, Nat.reduceMul, Nat.reduceSub, Nat.reduceEqDiff, Nat.reduceBEq, Int.reduceToNat, Int.reduceBEq, Int.reduceBNe, ty24, ty26, ty43, zr43, ty22, ty3, ty52, ty4, ty5, ty75, ty9, hd, cb]; (repeat refine ⟨by omega, ?_⟩); (first | (refine walkS_end (hK _ ?_); clear hK K; show AWP _ _ _ _ _) | (refine walkD_end (hK _ _ (okTrace_spec (by kernel_rfl)) ?_); clear hK K; show AWP _ _ _ _ _))
  (repeat refine awp_seq ?_); (first | refine awp_region fun K hK => ?_ | refine awp_draw (by kernel_rfl) (by kernel_rfl) fun K hK => ?_); (first | refine walkS_run [] _ _ ?_ | refine walkD_run [] _ _ _ ?_); simp (maxSteps := 2000000) (disch := omega) only [go_sem, ↓reduceIte, reduceCtorEq, Nat.reduceLT, Nat.reducePow, Nat.reduceLeDiff, Nat.reduceAdd, Nat.reduceMul, Nat.reduceSub, Nat.reduceEqDiff, Nat.reduceBEq, Int.reduceToNat, Int.reduceBEq, Int.reduceBNe, ty24, ty26, ty43, zr43, ty22, ty3, ty52, ty4, ty5, ty75, ty9, hd, cb]; (repeat refine ⟨by omega, ?_⟩); (first | (refine walkS_end (hK _ ?_); clear hK K; show AWP _ _ _ _ _) | (refine walkD_end (hK _ _ (okTrace_spec (by kernel_rfl)) ?_); clear hK K; show AWP _ _ _ _ _))
  refine awp_block (awp_loop (textI k) (fun s => 128 - s.val.val) ⟨⟨0, by omega⟩, fun j hj => by simp at hj⟩ ?_ (fun s => ?_))
  · unfold textI
    refine Weak.list ?_ ?_; (all_goals simp (disch := omega) only [AllF, AllL, le_self, le_top, lle_self, exists_eq_left', Option.some.injEq, go_sem, ↓reduceIte, reduceCtorEq, Nat.reduceLT, Nat.reducePow, Nat.reduceLeDiff, Nat.reduceAdd, Nat.reduceMul, Nat.reduceSub, Nat.reduceEqDiff, Nat.reduceBEq, Int.reduceToNat, Int.reduceBEq, Int.reduceBNe, ty24, ty26, ty43, zr43, ty22, ty3, ty52, ty4, ty5, ty75, ty9, hd, cb]); (all_goals (repeat' (with_reducible apply And.intro))); (all_goals try (first | exact le_eq rfl | (refine le_int ?_; omega) | (refine le_eq ?_; simp; done)))
    · exact ⟨rfl, rfl, fun j _ => by simp⟩
  obtain ⟨⟨i, hi9⟩, hs⟩ := s
  unfold textI
  simp only [] at hs
  by_cases hn : i < 128
  · cases hv : k.v.getLsbD i <;> cases hc : k.c.getLsbD i
    all_goals
      (repeat refine awp_seq ?_); (first | refine awp_region fun K hK => ?_ | refine awp_draw (by kernel_rfl) (by kernel_rfl) fun K hK => ?_); (first | refine walkS_run [] _ _ ?_ | refine walkD_run [] _ _ _ ?_); simp (maxSteps := 2000000) (disch := omega) only [go_sem, ↓reduceIte, reduceCtorEq, Nat.reduceLT, Nat.reducePow, Nat.reduceLeDiff, Nat.reduceAdd, Nat.reduceMul, Nat.reduceSub, Nat.reduceEqDiff, Nat.reduceBEq, Int.reduceToNat, Int.reduceBEq, Int.reduceBNe, ty24, ty26, ty43, zr43, ty22, ty3, ty52, ty4, ty5, ty75, ty9, hd, cb, hv, hc]; (repeat refine ⟨by omega, ?_⟩); (first | (refine walkS_end (hK _ ?_); clear hK K; show AWP _ _ _ _ _) | (refine walkD_end (hK _ _ (okTrace_spec (by kernel_rfl)) ?_); clear hK K; show AWP _ _ _ _ _))
      (repeat refine awp_seq ?_); refine awp_cond rfl (fun _ => ?_) (fun ht => absurd ht (by decide))
      refine awp_skip ?_; show AWP _ _ _ _ _
      refine awp_seq (awp_block ?_)
      (repeat refine awp_seq ?_); (first | refine awp_region fun K hK => ?_ | refine awp_draw (by kernel_rfl) (by kernel_rfl) fun K hK => ?_); (first | refine walkS_run [] _ _ ?_ | refine walkD_run [] _ _ _ ?_); simp (maxSteps := 2000000) (disch := omega) only [go_sem, ↓reduceIte, reduceCtorEq, Nat.reduceLT, Nat.reducePow, Nat.reduceLeDiff, Nat.reduceAdd, Nat.reduceMul, Nat.reduceSub, Nat.reduceEqDiff, Nat.reduceBEq, Int.reduceToNat, Int.reduceBEq, Int.reduceBNe, ty24, ty26, ty43, zr43, ty22, ty3, ty52, ty4, ty5, ty75, ty9, hd, cb, hv, hc]; (repeat refine ⟨by omega, ?_⟩); (first | (refine walkS_end (hK _ ?_); clear hK K; show AWP _ _ _ _ _) | (refine walkD_end (hK _ _ (okTrace_spec (by kernel_rfl)) ?_); clear hK K; show AWP _ _ _ _ _))
    · (repeat refine awp_seq ?_); refine awp_cond rfl (fun ht => absurd ht (by decide)) (fun _ => ?_); refine awp_skip ?_; show AWP _ _ _ _ _
      (repeat refine awp_seq ?_); (first | refine awp_region fun K hK => ?_ | refine awp_draw (by kernel_rfl) (by kernel_rfl) fun K hK => ?_); (first | refine walkS_run [] _ _ ?_ | refine walkD_run [] _ _ _ ?_); simp (maxSteps := 2000000) (disch := omega) only [go_sem, ↓reduceIte, reduceCtorEq, Nat.reduceLT, Nat.reducePow, Nat.reduceLeDiff, Nat.reduceAdd, Nat.reduceMul, Nat.reduceSub, Nat.reduceEqDiff, Nat.reduceBEq, Int.reduceToNat, Int.reduceBEq, Int.reduceBNe, ty24, ty26, ty43, zr43, ty22, ty3, ty52, ty4, ty5, ty75, ty9, hd, cb, hv, hc]; (repeat refine ⟨by omega, ?_⟩); (first | (refine walkS_end (hK _ ?_); clear hK K; show AWP _ _ _ _ _) | (refine walkD_end (hK _ _ (okTrace_spec (by kernel_rfl)) ?_); clear hK K; show AWP _ _ _ _ _))
      (repeat refine awp_seq ?_); (first | refine awp_region fun K hK => ?_ | refine awp_draw (by kernel_rfl) (by kernel_rfl) fun K hK => ?_); (first | refine walkS_run [] _ _ ?_ | refine walkD_run [] _ _ _ ?_); simp (maxSteps := 2000000) (disch := omega) only [go_sem, ↓reduceIte, reduceCtorEq, Nat.reduceLT, Nat.reducePow, Nat.reduceLeDiff, Nat.reduceAdd, Nat.reduceMul, Nat.reduceSub, Nat.reduceEqDiff, Nat.reduceBEq, Int.reduceToNat, Int.reduceBEq, Int.reduceBNe, ty24, ty26, ty43, zr43, ty22, ty3, ty52, ty4, ty5, ty75, ty9, hd, cb, hv, hc]; (repeat refine ⟨by omega, ?_⟩); (first | (refine walkS_end (hK _ ?_); clear hK K; show AWP _ _ _ _ _) | (refine walkD_end (hK _ _ (okTrace_spec (by kernel_rfl)) ?_); clear hK K; show AWP _ _ _ _ _))
      (repeat refine awp_seq ?_); refine awp_cond rfl (fun ht => absurd ht (by decide)) (fun _ => ?_); refine awp_skip ?_; show AWP _ _ _ _ _
      (repeat refine awp_seq ?_); (first | refine awp_region fun K hK => ?_ | refine awp_draw (by kernel_rfl) (by kernel_rfl) fun K hK => ?_); (first | refine walkS_run [] _ _ ?_ | refine walkD_run [] _ _ _ ?_); simp (maxSteps := 2000000) (disch := omega) only [go_sem, ↓reduceIte, reduceCtorEq, Nat.reduceLT, Nat.reducePow, Nat.reduceLeDiff, Nat.reduceAdd, Nat.reduceMul, Nat.reduceSub, Nat.reduceEqDiff, Nat.reduceBEq, Int.reduceToNat, Int.reduceBEq, Int.reduceBNe, ty24, ty26, ty43, zr43, ty22, ty3, ty52, ty4, ty5, ty75, ty9, hd, cb, hv, hc]; (repeat refine ⟨by omega, ?_⟩); (first | (refine walkS_end (hK _ ?_); clear hK K; show AWP _ _ _ _ _) | (refine walkD_end (hK _ _ (okTrace_spec (by kernel_rfl)) ?_); clear hK K; show AWP _ _ _ _ _))
      (repeat refine awp_seq ?_); refine awp_cond rfl (fun ht => absurd ht (by decide)) (fun _ => ?_); refine awp_skip ?_; show AWP _ _ _ _ _
      (repeat refine awp_seq ?_); (first | refine awp_region fun K hK => ?_ | refine awp_draw (by kernel_rfl) (by kernel_rfl) fun K hK => ?_); (first | refine walkS_run [] _ _ ?_ | refine walkD_run [] _ _ _ ?_); simp (maxSteps := 2000000) (disch := omega) only [go_sem, ↓reduceIte, reduceCtorEq, Nat.reduceLT, Nat.reducePow, Nat.reduceLeDiff, Nat.reduceAdd, Nat.reduceMul, Nat.reduceSub, Nat.reduceEqDiff, Nat.reduceBEq, Int.reduceToNat, Int.reduceBEq, Int.reduceBNe, ty24, ty26, ty43, zr43, ty22, ty3, ty52, ty4, ty5, ty75, ty9, hd, cb, hv, hc]; (repeat refine ⟨by omega, ?_⟩); (first | (refine walkS_end (hK _ ?_); clear hK K; show AWP _ _ _ _ _) | (refine walkD_end (hK _ _ (okTrace_spec (by kernel_rfl)) ?_); clear hK K; show AWP _ _ _ _ _))
      (repeat refine awp_seq ?_); (first | refine awp_region fun K hK => ?_ | refine awp_draw (by kernel_rfl) (by kernel_rfl) fun K hK => ?_)
      (first | refine walkS_run [] _ _ ?_ | refine walkD_run [] _ _ _ ?_); simp (maxSteps := 2000000) (disch := omega) only [go_sem, ↓reduceIte, reduceCtorEq, Nat.reduceLT, Nat.reducePow, Nat.reduceLeDiff, Nat.reduceAdd, Nat.reduceMul, Nat.reduceSub, Nat.reduceEqDiff, Nat.reduceBEq, Int.reduceToNat, Int.reduceBEq, Int.reduceBNe, ty24, ty26, ty43, zr43, ty22, ty3, ty52, ty4, ty5, ty75, ty9, hd, cb, hv, hc]; (repeat refine ⟨by omega, ?_⟩)
      (first | (refine walkS_end (hK _ ?_); clear hK K; show loopQ _ _ _ _ _ _) | (refine walkD_end (hK _ _ (okTrace_spec (by kernel_rfl)) ?_); clear hK K; show loopQ _ _ _ _ _ _))
      refine ⟨⟨⟨i + 1, by omega⟩, fun j hj hvj => ?_⟩, by simp only []; omega, ?_⟩
      · by_cases e : j = i
        · subst e; first | exact hc | (rw [hv] at hvj; cases hvj)
        · exact hs j (by simp at hj; omega) hvj
      refine Weak.list ?_ ?_; (all_goals simp (disch := omega) only [AllF, AllL, le_self, le_top, lle_self, exists_eq_left', Option.some.injEq, go_sem, ↓reduceIte, reduceCtorEq, Nat.reduceLT, Nat.reducePow, Nat.reduceLeDiff, Nat.reduceAdd, Nat.reduceMul, Nat.reduceSub, Nat.reduceEqDiff, Nat.reduceBEq, Int.reduceToNat, Int.reduceBEq, Int.reduceBNe, ty24, ty26, ty43, zr43, ty22, ty3, ty52, ty4, ty5, ty75, ty9, hd, cb, hv, hc]); (all_goals (repeat' (with_reducible apply And.intro))); (all_goals try (first | exact le_eq rfl | (refine le_int ?_; omega) | (refine le_eq ?_; simp; done)))
      · exact ⟨rfl, rfl, fun j hj => text_step k _ i j hn hj (by simp [chI, hv, hc])⟩
    · (repeat refine awp_seq ?_); refine awp_cond rfl (fun ht => absurd ht (by decide)) (fun _ => ?_); refine awp_skip ?_; show AWP _ _ _ _ _
      (repeat refine awp_seq ?_); (first | refine awp_region fun K hK => ?_ | refine awp_draw (by kernel_rfl) (by kernel_rfl) fun K hK => ?_); (first | refine walkS_run [] _ _ ?_ | refine walkD_run [] _ _ _ ?_); simp (maxSteps := 2000000) (disch := omega) only [go_sem, ↓reduceIte, reduceCtorEq, Nat.reduceLT, Nat.reducePow, Nat.reduceLeDiff, Nat.reduceAdd, Nat.reduceMul, Nat.reduceSub, Nat.reduceEqDiff, Nat.reduceBEq, Int.reduceToNat, Int.reduceBEq, Int.reduceBNe, ty24, ty26, ty43, zr43, ty22, ty3, ty52, ty4, ty5, ty75, ty9, hd, cb, hv, hc]; (repeat refine ⟨by omega, ?_⟩); (first | (refine walkS_end (hK _ ?_); clear hK K; show AWP _ _ _ _ _) | (refine walkD_end (hK _ _ (okTrace_spec (by kernel_rfl)) ?_); clear hK K; show AWP _ _ _ _ _))
      (repeat refine awp_seq ?_); (first | refine awp_region fun K hK => ?_ | refine awp_draw (by kernel_rfl) (by kernel_rfl) fun K hK => ?_); (first | refine walkS_run [] _ _ ?_ | refine walkD_run [] _ _ _ ?_); simp (maxSteps := 2000000) (disch := omega) only [go_sem, ↓reduceIte, reduceCtorEq, Nat.reduceLT, Nat.reducePow, Nat.reduceLeDiff, Nat.reduceAdd, Nat.reduceMul, Nat.reduceSub, Nat.reduceEqDiff, Nat.reduceBEq, Int.reduceToNat, Int.reduceBEq, Int.reduceBNe, ty24, ty26, ty43, zr43, ty22, ty3, ty52, ty4, ty5, ty75, ty9, hd, cb, hv, hc]; (repeat refine ⟨by omega, ?_⟩); (first | (refine walkS_end (hK _ ?_); clear hK K; show AWP _ _ _ _ _) | (refine walkD_end (hK _ _ (okTrace_spec (by kernel_rfl)) ?_); clear hK K; show AWP _ _ _ _ _))
      (repeat refine awp_seq ?_); refine awp_cond rfl (fun ht => absurd ht (by decide)) (fun _ => ?_); refine awp_skip ?_; show AWP _ _ _ _ _
      (repeat refine awp_seq ?_); (first | refine awp_region fun K hK => ?_ | refine awp_draw (by kernel_rfl) (by kernel_rfl) fun K hK => ?_); (first | refine walkS_run [] _ _ ?_ | refine walkD_run [] _ _ _ ?_); simp (maxSteps := 2000000) (disch := omega) only [go_sem, ↓reduceIte, reduceCtorEq, Nat.reduceLT, Nat.reducePow, Nat.reduceLeDiff, Nat.reduceAdd, Nat.reduceMul, Nat.reduceSub, Nat.reduceEqDiff, Nat.reduceBEq, Int.reduceToNat, Int.reduceBEq, Int.reduceBNe, ty24, ty26, ty43, zr43, ty22, ty3, ty52, ty4, ty5, ty75, ty9, hd, cb, hv, hc]; (repeat refine ⟨by omega, ?_⟩); (first | (refine walkS_end (hK _ ?_); clear hK K; show AWP _ _ _ _ _) | (refine walkD_end (hK _ _ (okTrace_spec (by kernel_rfl)) ?_); clear hK K; show AWP _ _ _ _ _))
      (repeat refine awp_seq ?_); refine awp_cond rfl (fun _ => ?_) (fun ht => absurd ht (by decide))
      (repeat refine awp_seq ?_); (first | refine awp_region fun K hK => ?_ | refine awp_draw (by kernel_rfl) (by kernel_rfl) fun K hK => ?_); (first | refine walkS_run [] _ _ ?_ | refine walkD_run [] _ _ _ ?_); simp (maxSteps := 2000000) (disch := omega) only [go_sem, ↓reduceIte, reduceCtorEq, Nat.reduceLT, Nat.reducePow, Nat.reduceLeDiff, Nat.reduceAdd, Nat.reduceMul, Nat.reduceSub, Nat.reduceEqDiff, Nat.reduceBEq, Int.reduceToNat, Int.reduceBEq, Int.reduceBNe, ty24, ty26, ty43, zr43, ty22, ty3, ty52, ty4, ty5, ty75, ty9, hd, cb, hv, hc]; (repeat refine ⟨by omega, ?_⟩); (first | (refine walkS_end (hK _ ?_); clear hK K; show AWP _ _ _ _ _) | (refine walkD_end (hK _ _ (okTrace_spec (by kernel_rfl)) ?_); clear hK K; show AWP _ _ _ _ _))
      (repeat refine awp_seq ?_); (first | refine awp_region fun K hK => ?_ | refine awp_draw (by kernel_rfl) (by kernel_rfl) fun K hK => ?_); (first | refine walkS_run [] _ _ ?_ | refine walkD_run [] _ _ _ ?_); simp (maxSteps := 2000000) (disch := omega) only [go_sem, ↓reduceIte, reduceCtorEq, Nat.reduceLT, Nat.reducePow, Nat.reduceLeDiff, Nat.reduceAdd, Nat.reduceMul, Nat.reduceSub, Nat.reduceEqDiff, Nat.reduceBEq, Int.reduceToNat, Int.reduceBEq, Int.reduceBNe, ty24, ty26, ty43, zr43, ty22, ty3, ty52, ty4, ty5, ty75, ty9, hd, cb, hv, hc]; (repeat refine ⟨by omega, ?_⟩); (first | (refine walkS_end (hK _ ?_); clear hK K; show AWP _ _ _ _ _) | (refine walkD_end (hK _ _ (okTrace_spec (by kernel_rfl)) ?_); clear hK K; show AWP _ _ _ _ _))
      (repeat refine awp_seq ?_); (first | refine awp_region fun K hK => ?_ | refine awp_draw (by kernel_rfl) (by kernel_rfl) fun K hK => ?_)
      (first | refine walkS_run [] _ _ ?_ | refine walkD_run [] _ _ _ ?_); simp (maxSteps := 2000000) (disch := omega) only [go_sem, ↓reduceIte, reduceCtorEq, Nat.reduceLT, Nat.reducePow, Nat.reduceLeDiff, Nat.reduceAdd, Nat.reduceMul, Nat.reduceSub, Nat.reduceEqDiff, Nat.reduceBEq, Int.reduceToNat, Int.reduceBEq, Int.reduceBNe, ty24, ty26, ty43, zr43, ty22, ty3, ty52, ty4, ty5, ty75, ty9, hd, cb, hv, hc]; (repeat refine ⟨by omega, ?_⟩)
      (first | (refine walkS_end (hK _ ?_); clear hK K; show loopQ _ _ _ _ _ _) | (refine walkD_end (hK _ _ (okTrace_spec (by kernel_rfl)) ?_); clear hK K; show loopQ _ _ _ _ _ _))
      refine ⟨⟨⟨i + 1, by omega⟩, fun j hj hvj => ?_⟩, by simp only []; omega, ?_⟩
      · by_cases e : j = i
        · subst e; first | exact hc | (rw [hv] at hvj; cases hvj)
        · exact hs j (by simp at hj; omega) hvj
      refine Weak.list ?_ ?_; (all_goals simp (disch := omega) only [AllF, AllL, le_self, le_top, lle_self, exists_eq_left', Option.some.injEq, go_sem, ↓reduceIte, reduceCtorEq, Nat.reduceLT, Nat.reducePow, Nat.reduceLeDiff, Nat.reduceAdd, Nat.reduceMul, Nat.reduceSub, Nat.reduceEqDiff, Nat.reduceBEq, Int.reduceToNat, Int.reduceBEq, Int.reduceBNe, ty24, ty26, ty43, zr43, ty22, ty3, ty52, ty4, ty5, ty75, ty9, hd, cb, hv, hc]); (all_goals (repeat' (with_reducible apply And.intro))); (all_goals try (first | exact le_eq rfl | (refine le_int ?_; omega) | (refine le_eq ?_; simp; done)))
      · exact ⟨rfl, rfl, fun j hj => text_step k _ i j hn hj (by simp [chI, hv, hc])⟩
    · (repeat refine awp_seq ?_); refine awp_cond rfl (fun _ => ?_) (fun ht => absurd ht (by decide))
      (repeat refine awp_seq ?_); (first | refine awp_region fun K hK => ?_ | refine awp_draw (by kernel_rfl) (by kernel_rfl) fun K hK => ?_); (first | refine walkS_run [] _ _ ?_ | refine walkD_run [] _ _ _ ?_); simp (maxSteps := 2000000) (disch := omega) only [go_sem, ↓reduceIte, reduceCtorEq, Nat.reduceLT, Nat.reducePow, Nat.reduceLeDiff, Nat.reduceAdd, Nat.reduceMul, Nat.reduceSub, Nat.reduceEqDiff, Nat.reduceBEq, Int.reduceToNat, Int.reduceBEq, Int.reduceBNe, ty24, ty26, ty43, zr43, ty22, ty3, ty52, ty4, ty5, ty75, ty9, hd, cb, hv, hc]; (repeat refine ⟨by omega, ?_⟩); (first | (refine walkS_end (hK _ ?_); clear hK K; show AWP _ _ _ _ _) | (refine walkD_end (hK _ _ (okTrace_spec (by kernel_rfl)) ?_); clear hK K; show AWP _ _ _ _ _))
      have hf : k.sound = false := by
        cases hf : k.sound
        · rfl
        · have := (sound_iff k).1 hf i hn hv
          rw [hc] at this; cases this
      rw [hf]
      refine awp_ret ⟨_, ?_, rfl⟩; rw [Try.results15]; simp (disch := omega) only [ResVars, ResVar, ptrLoc, go_sem, ↓reduceIte, reduceCtorEq, Nat.reduceLT, Nat.reducePow, Nat.reduceLeDiff, Nat.reduceAdd, Nat.reduceMul, Nat.reduceSub, Nat.reduceEqDiff, Nat.reduceBEq, Int.reduceToNat, Int.reduceBEq, Int.reduceBNe, ty24, ty26, ty43, zr43, ty22, ty3, ty52, ty4, ty5, ty75, ty9, hd, cb, hv, hc]
      try rfl
    · (repeat refine awp_seq ?_); refine awp_cond rfl (fun ht => absurd ht (by decide)) (fun _ => ?_); refine awp_skip ?_; show AWP _ _ _ _ _
      (repeat refine awp_seq ?_); (first | refine awp_region fun K hK => ?_ | refine awp_draw (by kernel_rfl) (by kernel_rfl) fun K hK => ?_); (first | refine walkS_run [] _ _ ?_ | refine walkD_run [] _ _ _ ?_); simp (maxSteps := 2000000) (disch := omega) only [go_sem, ↓reduceIte, reduceCtorEq, Nat.reduceLT, Nat.reducePow, Nat.reduceLeDiff, Nat.reduceAdd, Nat.reduceMul, Nat.reduceSub, Nat.reduceEqDiff, Nat.reduceBEq, Int.reduceToNat, Int.reduceBEq, Int.reduceBNe, ty24, ty26, ty43, zr43, ty22, ty3, ty52, ty4, ty5, ty75, ty9, hd, cb, hv, hc]; (repeat refine ⟨by omega, ?_⟩); (first | (refine walkS_end (hK _ ?_); clear hK K; show AWP _ _ _ _ _) | (refine walkD_end (hK _ _ (okTrace_spec (by kernel_rfl)) ?_); clear hK K; show AWP _ _ _ _ _))
      (repeat refine awp_seq ?_); (first | refine awp_region fun K hK => ?_ | refine awp_draw (by kernel_rfl) (by kernel_rfl) fun K hK => ?_); (first | refine walkS_run [] _ _ ?_ | refine walkD_run [] _ _ _ ?_); simp (maxSteps := 2000000) (disch := omega) only [go_sem, ↓reduceIte, reduceCtorEq, Nat.reduceLT, Nat.reducePow, Nat.reduceLeDiff, Nat.reduceAdd, Nat.reduceMul, Nat.reduceSub, Nat.reduceEqDiff, Nat.reduceBEq, Int.reduceToNat, Int.reduceBEq, Int.reduceBNe, ty24, ty26, ty43, zr43, ty22, ty3, ty52, ty4, ty5, ty75, ty9, hd, cb, hv, hc]; (repeat refine ⟨by omega, ?_⟩); (first | (refine walkS_end (hK _ ?_); clear hK K; show AWP _ _ _ _ _) | (refine walkD_end (hK _ _ (okTrace_spec (by kernel_rfl)) ?_); clear hK K; show AWP _ _ _ _ _))
      (repeat refine awp_seq ?_); refine awp_cond rfl (fun _ => ?_) (fun ht => absurd ht (by decide))
      (repeat refine awp_seq ?_); (first | refine awp_region fun K hK => ?_ | refine awp_draw (by kernel_rfl) (by kernel_rfl) fun K hK => ?_); (first | refine walkS_run [] _ _ ?_ | refine walkD_run [] _ _ _ ?_); simp (maxSteps := 2000000) (disch := omega) only [go_sem, ↓reduceIte, reduceCtorEq, Nat.reduceLT, Nat.reducePow, Nat.reduceLeDiff, Nat.reduceAdd, Nat.reduceMul, Nat.reduceSub, Nat.reduceEqDiff, Nat.reduceBEq, Int.reduceToNat, Int.reduceBEq, Int.reduceBNe, ty24, ty26, ty43, zr43, ty22, ty3, ty52, ty4, ty5, ty75, ty9, hd, cb, hv, hc]; (repeat refine ⟨by omega, ?_⟩); (first | (refine walkS_end (hK _ ?_); clear hK K; show AWP _ _ _ _ _) | (refine walkD_end (hK _ _ (okTrace_spec (by kernel_rfl)) ?_); clear hK K; show AWP _ _ _ _ _))
      (repeat refine awp_seq ?_); (first | refine awp_region fun K hK => ?_ | refine awp_draw (by kernel_rfl) (by kernel_rfl) fun K hK => ?_); (first | refine walkS_run [] _ _ ?_ | refine walkD_run [] _ _ _ ?_); simp (maxSteps := 2000000) (disch := omega) only [go_sem, ↓reduceIte, reduceCtorEq, Nat.reduceLT, Nat.reducePow, Nat.reduceLeDiff, Nat.reduceAdd, Nat.reduceMul, Nat.reduceSub, Nat.reduceEqDiff, Nat.reduceBEq, Int.reduceToNat, Int.reduceBEq, Int.reduceBNe, ty24, ty26, ty43, zr43, ty22, ty3, ty52, ty4, ty5, ty75, ty9, hd, cb, hv, hc]; (repeat refine ⟨by omega, ?_⟩); (first | (refine walkS_end (hK _ ?_); clear hK K; show AWP _ _ _ _ _) | (refine walkD_end (hK _ _ (okTrace_spec (by kernel_rfl)) ?_); clear hK K; show AWP _ _ _ _ _))
      (repeat refine awp_seq ?_); refine awp_cond rfl (fun ht => absurd ht (by decide)) (fun _ => ?_); refine awp_skip ?_; show AWP _ _ _ _ _
      (repeat refine awp_seq ?_); (first | refine awp_region fun K hK => ?_ | refine awp_draw (by kernel_rfl) (by kernel_rfl) fun K hK => ?_); (first | refine walkS_run [] _ _ ?_ | refine walkD_run [] _ _ _ ?_); simp (maxSteps := 2000000) (disch := omega) only [go_sem, ↓reduceIte, reduceCtorEq, Nat.reduceLT, Nat.reducePow, Nat.reduceLeDiff, Nat.reduceAdd, Nat.reduceMul, Nat.reduceSub, Nat.reduceEqDiff, Nat.reduceBEq, Int.reduceToNat, Int.reduceBEq, Int.reduceBNe, ty24, ty26, ty43, zr43, ty22, ty3, ty52, ty4, ty5, ty75, ty9, hd, cb, hv, hc]; (repeat refine ⟨by omega, ?_⟩); (first | (refine walkS_end (hK _ ?_); clear hK K; show AWP _ _ _ _ _) | (refine walkD_end (hK _ _ (okTrace_spec (by kernel_rfl)) ?_); clear hK K; show AWP _ _ _ _ _))
      (repeat refine awp_seq ?_); (first | refine awp_region fun K hK => ?_ | refine awp_draw (by kernel_rfl) (by kernel_rfl) fun K hK => ?_)
      (first | refine walkS_run [] _ _ ?_ | refine walkD_run [] _ _ _ ?_); simp (maxSteps := 2000000) (disch := omega) only [go_sem, ↓reduceIte, reduceCtorEq, Nat.reduceLT, Nat.reducePow, Nat.reduceLeDiff, Nat.reduceAdd, Nat.reduceMul, Nat.reduceSub, Nat.reduceEqDiff, Nat.reduceBEq, Int.reduceToNat, Int.reduceBEq, Int.reduceBNe, ty24, ty26, ty43, zr43, ty22, ty3, ty52, ty4, ty5, ty75, ty9, hd, cb, hv, hc]; (repeat refine ⟨by omega, ?_⟩)
      (first | (refine walkS_end (hK _ ?_); clear hK K; show loopQ _ _ _ _ _ _) | (refine walkD_end (hK _ _ (okTrace_spec (by kernel_rfl)) ?_); clear hK K; show loopQ _ _ _ _ _ _))
      refine ⟨⟨⟨i + 1, by omega⟩, fun j hj hvj => ?_⟩, by simp only []; omega, ?_⟩
      · by_cases e : j = i
        · subst e; first | exact hc | (rw [hv] at hvj; cases hvj)
        · exact hs j (by simp at hj; omega) hvj
      refine Weak.list ?_ ?_; (all_goals simp (disch := omega) only [AllF, AllL, le_self, le_top, lle_self, exists_eq_left', Option.some.injEq, go_sem, ↓reduceIte, reduceCtorEq, Nat.reduceLT, Nat.reducePow, Nat.reduceLeDiff, Nat.reduceAdd, Nat.reduceMul, Nat.reduceSub, Nat.reduceEqDiff, Nat.reduceBEq, Int.reduceToNat, Int.reduceBEq, Int.reduceBNe, ty24, ty26, ty43, zr43, ty22, ty3, ty52, ty4, ty5, ty75, ty9, hd, cb, hv, hc]); (all_goals (repeat' (with_reducible apply And.intro))); (all_goals try (first | exact le_eq rfl | (refine le_int ?_; omega) | (refine le_eq ?_; simp; done)))
      · exact ⟨rfl, rfl, fun j hj => text_step k _ i j hn hj (by simp [chI, hv, hc])⟩
  · have h128 : i = 128 := by omega
    subst h128
    (repeat refine awp_seq ?_); (first | refine awp_region fun K hK => ?_ | refine awp_draw (by kernel_rfl) (by kernel_rfl) fun K hK => ?_); (first | refine walkS_run [] _ _ ?_ | refine walkD_run [] _ _ _ ?_); simp (maxSteps := 2000000) (disch := omega) only [go_sem, ↓reduceIte, reduceCtorEq, Nat.reduceLT, Nat.reducePow, Nat.reduceLeDiff, Nat.reduceAdd, Nat.reduceMul, Nat.reduceSub, Nat.reduceEqDiff, Nat.reduceBEq, Int.reduceToNat, Int.reduceBEq, Int.reduceBNe, ty24, ty26, ty43, zr43, ty22, ty3, ty52, ty4, ty5, ty75, ty9, hd, cb]; (repeat refine ⟨by omega, ?_⟩); (first | (refine walkS_end (hK _ ?_); clear hK K; show AWP _ _ _ _ _) | (refine walkD_end (hK _ _ (okTrace_spec (by kernel_rfl)) ?_); clear hK K; show AWP _ _ _ _ _))
    refine awp_cond rfl (fun ht => absurd ht (by decide)) (fun _ => ?_)
    refine awp_exit ?_
    show AWP _ _ _ _ _
    (repeat refine awp_seq ?_); (first | refine awp_region fun K hK => ?_ | refine awp_draw (by kernel_rfl) (by kernel_rfl) fun K hK => ?_); (first | refine walkS_run [] _ _ ?_ | refine walkD_run [] _ _ _ ?_); simp (maxSteps := 2000000) (disch := omega) only [go_sem, ↓reduceIte, reduceCtorEq, Nat.reduceLT, Nat.reducePow, Nat.reduceLeDiff, Nat.reduceAdd, Nat.reduceMul, Nat.reduceSub, Nat.reduceEqDiff, Nat.reduceBEq, Int.reduceToNat, Int.reduceBEq, Int.reduceBNe, ty24, ty26, ty43, zr43, ty22, ty3, ty52, ty4, ty5, ty75, ty9, hd, cb]; (repeat refine ⟨by omega, ?_⟩); (first | (refine walkS_end (hK _ ?_); clear hK K; show AWP _ _ _ _ _) | (refine walkD_end (hK _ _ (okTrace_spec (by kernel_rfl)) ?_); clear hK K; show AWP _ _ _ _ _))
    have hf : k.sound = true := (sound_iff k).2 fun j hj hv => hs j hj hv
    rw [hf]
    refine awp_ret ⟨_, ?_, rfl⟩; rw [Try.results15]; simp (disch := omega) only [ResVars, ResVar, ptrLoc, go_sem, ↓reduceIte, reduceCtorEq, Nat.reduceLT, Nat.reducePow, Nat.reduceLeDiff, Nat.reduceAdd, Nat.reduceMul, Nat.reduceSub, Nat.reduceEqDiff, Nat.reduceBEq, Int.reduceToNat, Int.reduceBEq, Int.reduceBNe, ty24, ty26, ty43, zr43, ty22, ty3, ty52, ty4, ty5, ty75, ty9, hd, cb]
    unfold txt
    congr 2

    first | done | exact List.map_congr_left fun j hj => by rw [if_pos (by omega)]

def hasI (k : Cube) (x : BitVec 128) (s : {i : Fin 129 // ∀ j, j < i.val → (k.c.getLsbD (127 - j) = true → k.v.getLsbD (127 - j) = x.getLsbD (127 - j))}) : ASt :=
  ⟨[(6, .p (.d (.v (.int .i64 (s.val.val : Int))))), (5, .loc 5 0), (0, .p (.d (.v (.string (txt k)))))],
   [(5, .arr 43 128 fun j => .v (.bool (x.getLsbD j)))]⟩
theorem txt_size (k : Cube) : (txt k).size = 128 := by unfold txt; rw [strOfNums_size]; simp
theorem txt_at (k : Cube) (i : Nat) (hi : i < 128) : ((((txt k).data.toList.getD i 0).toNat : Nat) : Int) = chI k (127 - i) := by
  unfold txt
  rw [rng_eq, strOfNums_data, List.getD_eq_getElem?_getD, List.getElem?_map, List.getElem?_map, List.getElem?_range hi]
  simp only [Option.map_some, Option.getD_some]
  unfold chI
  split
  · split <;> decide
  · decide
theorem hasT_iff (k : Cube) (x : BitVec 128) : (x &&& k.c == k.v &&& k.c) = true ↔ ∀ i, i < 128 → k.c.getLsbD i = true → k.v.getLsbD i = x.getLsbD i := by
  rw [beq_iff_eq]
  constructor
  · intro h i hlt hc
    have := congrArg (fun z => z.getLsbD i) h
    simp only [BitVec.getLsbD_and, hc, Bool.and_true] at this
    exact this.symm
  · intro h
    apply BitVec.eq_of_getLsbD_eq
    intro i hlt
    rw [BitVec.getLsbD_and, BitVec.getLsbD_and]
    cases hc : k.c.getLsbD i
    · simp
    · rw [h i hlt hc]
/-- of a sound cube -/
def hasT (k : Cube) (x : BitVec 128) : Bool := x &&& k.c == k.v &&& k.c
theorem Hast_c (k : Cube) (x : BitVec 128) : ACalls Try.prog 19 [.d (.v (.string (txt k))), .agg (hd x)] (· = [.d (.v (.bool (hasT k x)))]) := by
  have sz := txt_size k
  have at_ := txt_at k
  refine acalls_of_awp Try.func19 rfl (by decide +kernel) (by rw [Try.ntmps19]; simp) ?_; rw [Try.ntmps19]; simp only [frOf]
  (repeat refine awp_seq ?_); (first | refine awp_region fun K hK => ?_ | refine awp_draw (by kernel_rfl) (by kernel_rfl) fun K hK => ?_); (first | refine walkS_run [] _ _ ?_ | refine walkD_run [] _ _ _ ?_); simp (maxSteps := 2000000) (disch := omega) only [go_sem, ↓reduceIte, reduceCtorEq, Nat.reduceLT, Nat.reducePow, Nat.reduceLeDiff, Nat.reduceAdd, Nat.reduceMul, Nat.reduceSub, Nat.reduceEqDiff, Nat.reduceBEq, Int.reduceToNat, Int.reduceBEq, Int.reduceBNe, ty24, ty26, ty43, zr43, ty22, ty3, ty52, ty4, ty5, ty75, ty9, hd, cb]; (repeat refine ⟨by omega, ?_⟩); (first | (refine walkS_end (hK _ ?_); clear hK K; show AWP _ _ _ _ _) | (refine walkD_end (hK _ _ (okTrace_spec (by kernel_rfl)) ?_); clear hK K; show AWP _ _ _ _ _))
  (repeat refine awp_seq ?_); (first | refine awp_region fun K hK => ?_ | refine awp_draw (by kernel_rfl) (by kernel_rfl) fun K hK => ?_)
  (first | refine walkS_run [] _ _ ?_ | refine walkD_run [] _ _ _ ?_); simp (maxSteps := 2000000) (disch := omega) only [go_sem, ↓reduceIte, reduceCtorEq, Nat.reduceLT, Nat.reducePow, Nat.reduceLeDiff, Nat.reduceAdd, Nat.reduceMul, Nat.reduceSub, Nat.reduceEqDiff, Nat.reduceBEq, Int.reduceToNat, Int.reduceBEq, Int.reduceBNe, ty24, ty26, ty43, zr43, ty22, ty3, ty52, ty4, ty5, ty75, ty9, hd, cb]; (repeat refine ⟨by omega, ?_⟩)
  (first | refine walkS_call3 rfl rfl rfl ?_ | refine walkD_call3 rfl rfl rfl ?_); simp (maxSteps := 2000000) (disch := omega) only [go_sem, ↓reduceIte, reduceCtorEq, Nat.reduceLT, Nat.reducePow, Nat.reduceLeDiff, Nat.reduceAdd, Nat.reduceMul, Nat.reduceSub, Nat.reduceEqDiff, Nat.reduceBEq, Int.reduceToNat, Int.reduceBEq, Int.reduceBNe, ty24, ty26, ty43, zr43, ty22, ty3, ty52, ty4, ty5, ty75, ty9, hd, cb]
  refine ⟨_, Bits_c x, ?_⟩
  (first | refine walkS_run [] _ _ ?_ | refine walkD_run [] _ _ _ ?_); simp (maxSteps := 2000000) (disch := omega) only [go_sem, ↓reduceIte, reduceCtorEq, Nat.reduceLT, Nat.reducePow, Nat.reduceLeDiff, Nat.reduceAdd, Nat.reduceMul, Nat.reduceSub, Nat.reduceEqDiff, Nat.reduceBEq, Int.reduceToNat, Int.reduceBEq, Int.reduceBNe, ty24, ty26, ty43, zr43, ty22, ty3, ty52, ty4, ty5, ty75, ty9, hd, cb]; (repeat refine ⟨by omega, ?_⟩)
  (first | (refine walkS_end (hK _ ?_); clear hK K; show AWP _ _ _ _ _) | (refine walkD_end (hK _ _ (okTrace_spec (by kernel_rfl)) ?_); clear hK K; show AWP _ _ _ _ _))
  (repeat refine awp_seq ?_); (first | refine awp_region fun K hK => ?_ | refine awp_draw (by kernel_rfl) (by kernel_rfl) fun K hK => ?_); (first | refine walkS_run [] _ _ ?_ | refine walkD_run [] _ _ _ ?_); simp (maxSteps := 2000000) (disch := omega) only [go_sem, ↓reduceIte, reduceCtorEq, Nat.reduceLT, Nat.reducePow, Nat.reduceLeDiff, Nat.reduceAdd, Nat.reduceMul, Nat.reduceSub, Nat.reduceEqDiff, Nat.reduceBEq, Int.reduceToNat, Int.reduceBEq, Int.reduceBNe, ty24, ty26, ty43, zr43, ty22, ty3, ty52, ty4, ty5, ty75, ty9, hd, cb]; (repeat refine ⟨by omega, ?_⟩); (first | (refine walkS_end (hK _ ?_); clear hK K; show AWP _ _ _ _ _) | (refine walkD_end (hK _ _ (okTrace_spec (by kernel_rfl)) ?_); clear hK K; show AWP _ _ _ _ _))
  refine awp_block (awp_loop (hasI k x) (fun s => 128 - s.val.val) ⟨⟨0, by omega⟩, fun j hj => by simp at hj⟩ ?_ (fun s => ?_))
  · unfold hasI
    refine Weak.list ?_ ?_; (all_goals simp (disch := omega) only [AllF, AllL, le_self, le_top, lle_self, exists_eq_left', Option.some.injEq, go_sem, ↓reduceIte, reduceCtorEq, Nat.reduceLT, Nat.reducePow, Nat.reduceLeDiff, Nat.reduceAdd, Nat.reduceMul, Nat.reduceSub, Nat.reduceEqDiff, Nat.reduceBEq, Int.reduceToNat, Int.reduceBEq, Int.reduceBNe, ty24, ty26, ty43, zr43, ty22, ty3, ty52, ty4, ty5, ty75, ty9, hd, cb]); (all_goals (repeat' (with_reducible apply And.intro))); (all_goals try (first | exact le_eq rfl | (refine le_int ?_; omega) | (refine le_eq ?_; simp; done)))
  obtain ⟨⟨i, hi9⟩, hs⟩ := s
  unfold hasI
  simp only [] at hs
  by_cases hn : i < 128
  · have at_i := at_ i hn
    (repeat refine awp_seq ?_); (first | refine awp_region fun K hK => ?_ | refine awp_draw (by kernel_rfl) (by kernel_rfl) fun K hK => ?_)
    (first | refine walkS_run [] _ _ ?_ | refine walkD_run [] _ _ _ ?_); simp (maxSteps := 2000000) (disch := omega) only [go_sem, ↓reduceIte, reduceCtorEq, Nat.reduceLT, Nat.reducePow, Nat.reduceLeDiff, Nat.reduceAdd, Nat.reduceMul, Nat.reduceSub, Nat.reduceEqDiff, Nat.reduceBEq, Int.reduceToNat, Int.reduceBEq, Int.reduceBNe, ty24, ty26, ty43, zr43, ty22, ty3, ty52, ty4, ty5, ty75, ty9, hd, cb, sz, at_i]; (repeat refine ⟨by omega, ?_⟩)
    (first | (refine walkS_end (hK _ ?_); clear hK K; show AWP _ _ _ _ _) | (refine walkD_end (hK _ _ (okTrace_spec (by kernel_rfl)) ?_); clear hK K; show AWP _ _ _ _ _))
    (repeat refine awp_seq ?_); refine awp_cond rfl (fun _ => ?_) (fun ht => absurd ht (by decide))
    refine awp_skip ?_; show AWP _ _ _ _ _
    refine awp_seq (awp_block ?_)
    cases hv : k.v.getLsbD (127 - i) <;> cases hc : k.c.getLsbD (127 - i) <;> cases hx : x.getLsbD (127 - i)
    all_goals
      simp only [chI, hv, hc, if_true, if_false, Bool.false_eq_true] at at_i
      (repeat refine awp_seq ?_); (first | refine awp_region fun K hK => ?_ | refine awp_draw (by kernel_rfl) (by kernel_rfl) fun K hK => ?_); (first | refine walkS_run [] _ _ ?_ | refine walkD_run [] _ _ _ ?_); simp (maxSteps := 2000000) (disch := omega) only [go_sem, ↓reduceIte, reduceCtorEq, Nat.reduceLT, Nat.reducePow, Nat.reduceLeDiff, Nat.reduceAdd, Nat.reduceMul, Nat.reduceSub, Nat.reduceEqDiff, Nat.reduceBEq, Int.reduceToNat, Int.reduceBEq, Int.reduceBNe, ty24, ty26, ty43, zr43, ty22, ty3, ty52, ty4, ty5, ty75, ty9, hd, cb, sz, at_i, hx]; (repeat refine ⟨by omega, ?_⟩); (first | (refine walkS_end (hK _ ?_); clear hK K; show AWP _ _ _ _ _) | (refine walkD_end (hK _ _ (okTrace_spec (by kernel_rfl)) ?_); clear hK K; show AWP _ _ _ _ _))
      first
        | (repeat refine awp_seq ?_); refine awp_cond rfl (fun _ => ?_) (fun ht => absurd ht (by decide))
          (repeat refine awp_seq ?_); (first | refine awp_region fun K hK => ?_ | refine awp_draw (by kernel_rfl) (by kernel_rfl) fun K hK => ?_); (first | refine walkS_run [] _ _ ?_ | refine walkD_run [] _ _ _ ?_); simp (maxSteps := 2000000) (disch := omega) only [go_sem, ↓reduceIte, reduceCtorEq, Nat.reduceLT, Nat.reducePow, Nat.reduceLeDiff, Nat.reduceAdd, Nat.reduceMul, Nat.reduceSub, Nat.reduceEqDiff, Nat.reduceBEq, Int.reduceToNat, Int.reduceBEq, Int.reduceBNe, ty24, ty26, ty43, zr43, ty22, ty3, ty52, ty4, ty5, ty75, ty9, hd, cb, sz, at_i, hx]; (repeat refine ⟨by omega, ?_⟩); (first | (refine walkS_end (hK _ ?_); clear hK K; show AWP _ _ _ _ _) | (refine walkD_end (hK _ _ (okTrace_spec (by kernel_rfl)) ?_); clear hK K; show AWP _ _ _ _ _))
          have hf : hasT k x = false := by
            cases hf : hasT k x
            · rfl
            · have := (hasT_iff k x).1 hf (127 - i) (by omega) hc
              rw [hv, hx] at this; cases this
          rw [hf]
          refine awp_ret ⟨_, ?_, rfl⟩; rw [Try.results19]; simp (disch := omega) only [ResVars, ResVar, ptrLoc, go_sem, ↓reduceIte, reduceCtorEq, Nat.reduceLT, Nat.reducePow, Nat.reduceLeDiff, Nat.reduceAdd, Nat.reduceMul, Nat.reduceSub, Nat.reduceEqDiff, Nat.reduceBEq, Int.reduceToNat, Int.reduceBEq, Int.reduceBNe, ty24, ty26, ty43, zr43, ty22, ty3, ty52, ty4, ty5, ty75, ty9, hd, cb, sz, at_i, hx]
        | (repeat refine awp_seq ?_); refine awp_cond rfl (fun ht => absurd ht (by decide)) (fun _ => ?_); refine awp_skip ?_; show AWP _ _ _ _ _
          (repeat refine awp_seq ?_); (first | refine awp_region fun K hK => ?_ | refine awp_draw (by kernel_rfl) (by kernel_rfl) fun K hK => ?_)
          (first | refine walkS_run [] _ _ ?_ | refine walkD_run [] _ _ _ ?_); simp (maxSteps := 2000000) (disch := omega) only [go_sem, ↓reduceIte, reduceCtorEq, Nat.reduceLT, Nat.reducePow, Nat.reduceLeDiff, Nat.reduceAdd, Nat.reduceMul, Nat.reduceSub, Nat.reduceEqDiff, Nat.reduceBEq, Int.reduceToNat, Int.reduceBEq, Int.reduceBNe, ty24, ty26, ty43, zr43, ty22, ty3, ty52, ty4, ty5, ty75, ty9, hd, cb, sz, at_i, hx]; (repeat refine ⟨by omega, ?_⟩)
          (first | (refine walkS_end (hK _ ?_); clear hK K; show loopQ _ _ _ _ _ _) | (refine walkD_end (hK _ _ (okTrace_spec (by kernel_rfl)) ?_); clear hK K; show loopQ _ _ _ _ _ _))
          refine ⟨⟨⟨i + 1, by omega⟩, fun j hj hcj => ?_⟩, by simp only []; omega, ?_⟩
          · by_cases e : j = i
            · subst e; first | (rw [hv, hx]; done) | (rw [hc] at hcj; cases hcj)
            · exact hs j (by simp at hj; omega) hcj
          refine Weak.list ?_ ?_; (all_goals simp (disch := omega) only [AllF, AllL, le_self, le_top, lle_self, exists_eq_left', Option.some.injEq, go_sem, ↓reduceIte, reduceCtorEq, Nat.reduceLT, Nat.reducePow, Nat.reduceLeDiff, Nat.reduceAdd, Nat.reduceMul, Nat.reduceSub, Nat.reduceEqDiff, Nat.reduceBEq, Int.reduceToNat, Int.reduceBEq, Int.reduceBNe, ty24, ty26, ty43, zr43, ty22, ty3, ty52, ty4, ty5, ty75, ty9, hd, cb, sz, at_i, hx]); (all_goals (repeat' (with_reducible apply And.intro))); (all_goals try (first | exact le_eq rfl | (refine le_int ?_; omega) | (refine le_eq ?_; simp; done)))
  · have h128 : i = 128 := by omega
    subst h128
    (repeat refine awp_seq ?_); (first | refine awp_region fun K hK => ?_ | refine awp_draw (by kernel_rfl) (by kernel_rfl) fun K hK => ?_); (first | refine walkS_run [] _ _ ?_ | refine walkD_run [] _ _ _ ?_); simp (maxSteps := 2000000) (disch := omega) only [go_sem, ↓reduceIte, reduceCtorEq, Nat.reduceLT, Nat.reducePow, Nat.reduceLeDiff, Nat.reduceAdd, Nat.reduceMul, Nat.reduceSub, Nat.reduceEqDiff, Nat.reduceBEq, Int.reduceToNat, Int.reduceBEq, Int.reduceBNe, ty24, ty26, ty43, zr43, ty22, ty3, ty52, ty4, ty5, ty75, ty9, hd, cb, sz]; (repeat refine ⟨by omega, ?_⟩); (first | (refine walkS_end (hK _ ?_); clear hK K; show AWP _ _ _ _ _) | (refine walkD_end (hK _ _ (okTrace_spec (by kernel_rfl)) ?_); clear hK K; show AWP _ _ _ _ _))
    refine awp_cond rfl (fun ht => absurd ht (by decide)) (fun _ => ?_)
    refine awp_exit ?_
    show AWP _ _ _ _ _
    (repeat refine awp_seq ?_); (first | refine awp_region fun K hK => ?_ | refine awp_draw (by kernel_rfl) (by kernel_rfl) fun K hK => ?_); (first | refine walkS_run [] _ _ ?_ | refine walkD_run [] _ _ _ ?_); simp (maxSteps := 2000000) (disch := omega) only [go_sem, ↓reduceIte, reduceCtorEq, Nat.reduceLT, Nat.reducePow, Nat.reduceLeDiff, Nat.reduceAdd, Nat.reduceMul, Nat.reduceSub, Nat.reduceEqDiff, Nat.reduceBEq, Int.reduceToNat, Int.reduceBEq, Int.reduceBNe, ty24, ty26, ty43, zr43, ty22, ty3, ty52, ty4, ty5, ty75, ty9, hd, cb, sz]; (repeat refine ⟨by omega, ?_⟩); (first | (refine walkS_end (hK _ ?_); clear hK K; show AWP _ _ _ _ _) | (refine walkD_end (hK _ _ (okTrace_spec (by kernel_rfl)) ?_); clear hK K; show AWP _ _ _ _ _))
    have hf : hasT k x = true := (hasT_iff k x).2 fun j hj hc => by
      have := hs (127 - j) (by omega)
      rw [show 127 - (127 - j) = j from by omega] at this
      exact this hc
    rw [hf]
    refine awp_ret ⟨_, ?_, rfl⟩; rw [Try.results19]; simp (disch := omega) only [ResVars, ResVar, ptrLoc, go_sem, ↓reduceIte, reduceCtorEq, Nat.reduceLT, Nat.reducePow, Nat.reduceLeDiff, Nat.reduceAdd, Nat.reduceMul, Nat.reduceSub, Nat.reduceEqDiff, Nat.reduceBEq, Int.reduceToNat, Int.reduceBEq, Int.reduceBNe, ty24, ty26, ty43, zr43, ty22, ty3, ty52, ty4, ty5, ty75, ty9, hd, cb, sz]
end Go.Proofs.Ytfcfhlfehomhpaa
