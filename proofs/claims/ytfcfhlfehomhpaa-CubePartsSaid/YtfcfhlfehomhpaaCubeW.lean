/- The laws of layer 2, on: the call of each returns true. Conditions: none. -/
import Derived.Test.YtfcfhlfehomhpaaMeets
import Derived.Test.YtfcfhlfehomhpaaCubeLaw
set_option linter.unusedSimpArgs false
set_option linter.unusedVariables false
namespace Go.Proofs.Ytfcfhlfehomhpaa
open Go.Proofs.Ytfcfhlfehomhpaa.AL
theorem row_at (L : List Cube) (i : Nat) : rowC L i = cb (L.getD i ⟨0, 0⟩) := rfl
theorem rowT_at (L : List Cube) (i : Nat) : rowT L i = [.v (.string (txt (L.getD i ⟨0, 0⟩)))] := rfl
theorem getD_mem {α : Type} {L : List α} {i : Nat} (h : i < L.length) (z : α) : L.getD i z ∈ L := by
  rw [List.getD_eq_getElem?_getD, List.getElem?_eq_getElem h]; exact List.getElem_mem h
def cubeLessI (L : List Cube) (i : Fin (L.length + 1)) : ASt :=
  ⟨[(11, .p (.d (.v (.int .i64 (i.val : Int))))), (10, .p (.d (.sl 1 L.length (rowT L)))), (9, .p (.d (.sl 4 L.length (rowC L))))], []⟩
set_option maxRecDepth 100000 in
set_option maxHeartbeats 1000000 in
theorem CubeLess_c (a b : Cube) : ACalls Try.prog 5 [.agg (cb a), .agg (cb b)] (· = [.d (.v (.bool true))]) := by
  have ta := Text_c a
  have tb := Text_c b
  have hab : a.sound = true ∧ b.sound = true ∨ (a.sound = false ∨ b.sound = false) := by cases a.sound <;> cases b.sound <;> simp
  rcases hab with ⟨ha, hb⟩ | hab
  · have ls := Less_cube_c a b
    have lT := LessT_c a b ha hb
    have hlen := lessL_len a b
    have hs : ∀ k ∈ lessL a b, k.sound = true := fun k hk => (lessL_mem ha hk).1
    generalize lessL a b = L at ls lT hlen hs
    rw [ha] at ta
    rw [hb] at tb
    simp only [if_true] at ta tb
    generalize txt a = sa at ta lT
    generalize txt b = sb at tb lT
    refine acalls_of_awp Try.func5 rfl (by decide +kernel) (by rw [Try.ntmps5]; simp) ?_; rw [Try.ntmps5]; simp only [frOf]
    (repeat (first | refine awp_seq ?_ | refine awp_yes rfl ?_ | refine awp_no rfl ?_ | refine awp_block ?_ | (refine awp_region fun K hK => ?_) | (refine awp_draw (by kernel_rfl) (by kernel_rfl) fun K hK => ?_) | (refine awp_skip ?_; (first | show AWP _ _ _ _ _ | show loopQ _ _ _ _ _ _)) | (refine awp_exit ?_; (first | show AWP _ _ _ _ _ | show loopQ _ _ _ _ _ _)) | ((first | refine walkS_end (hK _ ?_) | refine walkD_end (hK _ _ (okTrace_spec (by kernel_rfl)) ?_)); clear hK K; (first | show AWP _ _ _ _ _ | show loopQ _ _ _ _ _ _)) | ((first | refine walkS_call3 rfl rfl rfl ?_ | refine walkD_call3 rfl rfl rfl ?_); simp (maxSteps := 2000000) (disch := omega) only [go_sem, ↓reduceIte, reduceCtorEq, Nat.reduceLT, Nat.reducePow, Nat.reduceLeDiff, Nat.reduceAdd, Nat.reduceMul, Nat.reduceSub, Nat.reduceEqDiff, Nat.reduceBEq, Int.reduceToNat, Int.reduceBEq, Int.reduceBNe, ty24, ty26, ty22, ty3, ty4, un4, ty9, ty36, ty41, hd, cb, eqty24, eqty26, hi_zero, lo_zero, eqI_self, bne_self_eq_false]; (first | refine ⟨_, ta, ?_⟩ | refine ⟨_, tb, ?_⟩ | refine ⟨_, ls, ?_⟩ | refine ⟨_, lT, ?_⟩ | refine ⟨_, awake2_c, ?_⟩)) | ((first | refine walkS_run1 [] rfl ?_ | refine walkD_run1 [] rfl ?_); simp (maxSteps := 2000000) (disch := omega) only [go_sem, ↓reduceIte, reduceCtorEq, Nat.reduceLT, Nat.reducePow, Nat.reduceLeDiff, Nat.reduceAdd, Nat.reduceMul, Nat.reduceSub, Nat.reduceEqDiff, Nat.reduceBEq, Int.reduceToNat, Int.reduceBEq, Int.reduceBNe, ty24, ty26, ty22, ty3, ty4, un4, ty9, ty36, ty41, hd, cb, eqty24, eqty26, hi_zero, lo_zero, eqI_self, bne_self_eq_false]; (repeat (first | refine ⟨by omega, ?_⟩ | refine ⟨True.intro, ?_⟩)))))
    refine awp_loop (cubeLessI L) (fun i => L.length - i.val) ⟨0, by omega⟩ ?_ (fun s => ?_)
    · unfold cubeLessI
      refine Weak.list ?_ ?_; (all_goals simp (disch := omega) only [AllF, AllL, le_self, le_top, lle_self, exists_eq_left', Option.some.injEq, go_sem, ↓reduceIte, reduceCtorEq, Nat.reduceLT, Nat.reducePow, Nat.reduceLeDiff, Nat.reduceAdd, Nat.reduceMul, Nat.reduceSub, Nat.reduceEqDiff, Nat.reduceBEq, Int.reduceToNat, Int.reduceBEq, Int.reduceBNe, ty24, ty26, ty22, ty3, ty4, un4, ty9, ty36, ty41, hd, cb, eqty24, eqty26, hi_zero, lo_zero, eqI_self, bne_self_eq_false]); (all_goals (repeat' (with_reducible apply And.intro))); (all_goals try (first | exact le_eq rfl | (refine le_int ?_; omega) | (refine le_eq ?_; simp; done)))
    obtain ⟨i, hi⟩ := s
    unfold cubeLessI
    by_cases hn : i < L.length
    · have hk := hs _ (getD_mem hn ⟨0, 0⟩)
      have r1 := row_at L i
      have r2 := rowT_at L i
      generalize L.getD i ⟨0, 0⟩ = K at hk r1 r2
      have ct := CubeT_c K
      rw [andC hk] at ct
      generalize txt K = sk at r2 ct
      (repeat (first | refine awp_seq ?_ | refine awp_yes rfl ?_ | refine awp_no rfl ?_ | refine awp_block ?_ | (refine awp_region fun K hK => ?_) | (refine awp_draw (by kernel_rfl) (by kernel_rfl) fun K hK => ?_) | (refine awp_skip ?_; (first | show AWP _ _ _ _ _ | show loopQ _ _ _ _ _ _)) | (refine awp_exit ?_; (first | show AWP _ _ _ _ _ | show loopQ _ _ _ _ _ _)) | ((first | refine walkS_end (hK _ ?_) | refine walkD_end (hK _ _ (okTrace_spec (by kernel_rfl)) ?_)); clear hK K; (first | show AWP _ _ _ _ _ | show loopQ _ _ _ _ _ _)) | ((first | refine walkS_call3 rfl rfl rfl ?_ | refine walkD_call3 rfl rfl rfl ?_); simp (maxSteps := 2000000) (disch := omega) only [go_sem, ↓reduceIte, reduceCtorEq, Nat.reduceLT, Nat.reducePow, Nat.reduceLeDiff, Nat.reduceAdd, Nat.reduceMul, Nat.reduceSub, Nat.reduceEqDiff, Nat.reduceBEq, Int.reduceToNat, Int.reduceBEq, Int.reduceBNe, ty24, ty26, ty22, ty3, ty4, un4, ty9, ty36, ty41, hd, cb, eqty24, eqty26, hi_zero, lo_zero, eqI_self, bne_self_eq_false, r1, r2]; (first | refine ⟨_, ct, ?_⟩)) | ((first | refine walkS_run1 [] rfl ?_ | refine walkD_run1 [] rfl ?_); simp (maxSteps := 2000000) (disch := omega) only [go_sem, ↓reduceIte, reduceCtorEq, Nat.reduceLT, Nat.reducePow, Nat.reduceLeDiff, Nat.reduceAdd, Nat.reduceMul, Nat.reduceSub, Nat.reduceEqDiff, Nat.reduceBEq, Int.reduceToNat, Int.reduceBEq, Int.reduceBNe, ty24, ty26, ty22, ty3, ty4, un4, ty9, ty36, ty41, hd, cb, eqty24, eqty26, hi_zero, lo_zero, eqI_self, bne_self_eq_false, r1, r2]; (repeat (first | refine ⟨by omega, ?_⟩ | refine ⟨True.intro, ?_⟩)))))
      refine ⟨⟨i + 1, by omega⟩, by simp only []; omega, ?_⟩
      refine Weak.list ?_ ?_; (all_goals simp (disch := omega) only [AllF, AllL, le_self, le_top, lle_self, exists_eq_left', Option.some.injEq, go_sem, ↓reduceIte, reduceCtorEq, Nat.reduceLT, Nat.reducePow, Nat.reduceLeDiff, Nat.reduceAdd, Nat.reduceMul, Nat.reduceSub, Nat.reduceEqDiff, Nat.reduceBEq, Int.reduceToNat, Int.reduceBEq, Int.reduceBNe, ty24, ty26, ty22, ty3, ty4, un4, ty9, ty36, ty41, hd, cb, eqty24, eqty26, hi_zero, lo_zero, eqI_self, bne_self_eq_false, r1, r2]); (all_goals (repeat' (with_reducible apply And.intro))); (all_goals try (first | exact le_eq rfl | (refine le_int ?_; omega) | (refine le_eq ?_; simp; done)))
    · have : i = L.length := by omega
      subst this
      (repeat (first | refine awp_seq ?_ | refine awp_yes rfl ?_ | refine awp_no rfl ?_ | refine awp_block ?_ | (refine awp_region fun K hK => ?_) | (refine awp_draw (by kernel_rfl) (by kernel_rfl) fun K hK => ?_) | (refine awp_skip ?_; (first | show AWP _ _ _ _ _ | show loopQ _ _ _ _ _ _)) | (refine awp_exit ?_; (first | show AWP _ _ _ _ _ | show loopQ _ _ _ _ _ _)) | ((first | refine walkS_end (hK _ ?_) | refine walkD_end (hK _ _ (okTrace_spec (by kernel_rfl)) ?_)); clear hK K; (first | show AWP _ _ _ _ _ | show loopQ _ _ _ _ _ _)) | ((first | refine walkS_call3 rfl rfl rfl ?_ | refine walkD_call3 rfl rfl rfl ?_); simp (maxSteps := 2000000) (disch := omega) only [go_sem, ↓reduceIte, reduceCtorEq, Nat.reduceLT, Nat.reducePow, Nat.reduceLeDiff, Nat.reduceAdd, Nat.reduceMul, Nat.reduceSub, Nat.reduceEqDiff, Nat.reduceBEq, Int.reduceToNat, Int.reduceBEq, Int.reduceBNe, ty24, ty26, ty22, ty3, ty4, un4, ty9, ty36, ty41, hd, cb, eqty24, eqty26, hi_zero, lo_zero, eqI_self, bne_self_eq_false]; (first | refine ⟨_, awake2_c, ?_⟩)) | ((first | refine walkS_run1 [] rfl ?_ | refine walkD_run1 [] rfl ?_); simp (maxSteps := 2000000) (disch := omega) only [go_sem, ↓reduceIte, reduceCtorEq, Nat.reduceLT, Nat.reducePow, Nat.reduceLeDiff, Nat.reduceAdd, Nat.reduceMul, Nat.reduceSub, Nat.reduceEqDiff, Nat.reduceBEq, Int.reduceToNat, Int.reduceBEq, Int.reduceBNe, ty24, ty26, ty22, ty3, ty4, un4, ty9, ty36, ty41, hd, cb, eqty24, eqty26, hi_zero, lo_zero, eqI_self, bne_self_eq_false]; (repeat (first | refine ⟨by omega, ?_⟩ | refine ⟨True.intro, ?_⟩)))))
      refine awp_ret ⟨_, ?_, rfl⟩; rw [Try.results5]; simp (disch := omega) only [ResVars, ResVar, ptrLoc, go_sem, ↓reduceIte, reduceCtorEq, Nat.reduceLT, Nat.reducePow, Nat.reduceLeDiff, Nat.reduceAdd, Nat.reduceMul, Nat.reduceSub, Nat.reduceEqDiff, Nat.reduceBEq, Int.reduceToNat, Int.reduceBEq, Int.reduceBNe, ty24, ty26, ty22, ty3, ty4, un4, ty9, ty36, ty41, hd, cb, eqty24, eqty26, hi_zero, lo_zero, eqI_self, bne_self_eq_false]
  · cases ha : a.sound <;> cases hb : b.sound
    all_goals
      rw [ha] at ta
      rw [hb] at tb
    rotate_right
    · rw [ha, hb] at hab; simp at hab
    all_goals
      refine acalls_of_awp Try.func5 rfl (by decide +kernel) (by rw [Try.ntmps5]; simp) ?_; rw [Try.ntmps5]; simp only [frOf]
      (repeat (first | refine awp_seq ?_ | refine awp_yes rfl ?_ | refine awp_no rfl ?_ | refine awp_block ?_ | (refine awp_region fun K hK => ?_) | (refine awp_draw (by kernel_rfl) (by kernel_rfl) fun K hK => ?_) | (refine awp_skip ?_; (first | show AWP _ _ _ _ _ | show loopQ _ _ _ _ _ _)) | (refine awp_exit ?_; (first | show AWP _ _ _ _ _ | show loopQ _ _ _ _ _ _)) | ((first | refine walkS_end (hK _ ?_) | refine walkD_end (hK _ _ (okTrace_spec (by kernel_rfl)) ?_)); clear hK K; (first | show AWP _ _ _ _ _ | show loopQ _ _ _ _ _ _)) | ((first | refine walkS_call3 rfl rfl rfl ?_ | refine walkD_call3 rfl rfl rfl ?_); simp (maxSteps := 2000000) (disch := omega) only [go_sem, ↓reduceIte, reduceCtorEq, Nat.reduceLT, Nat.reducePow, Nat.reduceLeDiff, Nat.reduceAdd, Nat.reduceMul, Nat.reduceSub, Nat.reduceEqDiff, Nat.reduceBEq, Int.reduceToNat, Int.reduceBEq, Int.reduceBNe, ty24, ty26, ty22, ty3, ty4, un4, ty9, ty36, ty41, hd, cb, eqty24, eqty26, hi_zero, lo_zero, eqI_self, bne_self_eq_false]; (first | refine ⟨_, ta, ?_⟩ | refine ⟨_, tb, ?_⟩ | refine ⟨_, awake2_c, ?_⟩)) | ((first | refine walkS_run1 [] rfl ?_ | refine walkD_run1 [] rfl ?_); simp (maxSteps := 2000000) (disch := omega) only [go_sem, ↓reduceIte, reduceCtorEq, Nat.reduceLT, Nat.reducePow, Nat.reduceLeDiff, Nat.reduceAdd, Nat.reduceMul, Nat.reduceSub, Nat.reduceEqDiff, Nat.reduceBEq, Int.reduceToNat, Int.reduceBEq, Int.reduceBNe, ty24, ty26, ty22, ty3, ty4, un4, ty9, ty36, ty41, hd, cb, eqty24, eqty26, hi_zero, lo_zero, eqI_self, bne_self_eq_false]; (repeat (first | refine ⟨by omega, ?_⟩ | refine ⟨True.intro, ?_⟩)))))
      refine awp_ret ⟨_, ?_, rfl⟩; rw [Try.results5]; simp (disch := omega) only [ResVars, ResVar, ptrLoc, go_sem, ↓reduceIte, reduceCtorEq, Nat.reduceLT, Nat.reducePow, Nat.reduceLeDiff, Nat.reduceAdd, Nat.reduceMul, Nat.reduceSub, Nat.reduceEqDiff, Nat.reduceBEq, Int.reduceToNat, Int.reduceBEq, Int.reduceBNe, ty24, ty26, ty22, ty3, ty4, un4, ty9, ty36, ty41, hd, cb, eqty24, eqty26, hi_zero, lo_zero, eqI_self, bne_self_eq_false]

def cubePartsI (a b : Cube) (h : BitVec 128) (c : Nat) (L : List Cube) (i : Fin (L.length + 1)) : ASt :=
  ⟨[(11, .p (.d (.v (.int .i64 (i.val : Int))))), (10, .p (.d (.sl 4 L.length (rowC L)))), (7, .p (.d (.v (.int .i64 ((c + (L.take i.val).countP (hasC · h) : Nat) : Int))))), (6, .p (.d (.v (.bool false)))),
    (5, .p (.d (.bx (hd h)))), (4, .p (.d (.bx (cb b)))), (3, .p (.d (.bx (cb a))))], []⟩
theorem countP_take {α : Type} (p : α → Bool) (L : List α) (i : Nat) (z : α) (h : i < L.length) : (L.take (i + 1)).countP p = (L.take i).countP p + cnt (p (L.getD i z)) := by
  rw [List.take_succ_eq_append_getElem h, List.countP_append, List.getD_eq_getElem?_getD, List.getElem?_eq_getElem h]
  simp [List.countP_cons, cnt]
set_option maxRecDepth 100000 in
set_option maxHeartbeats 1000000 in
theorem CubeParts_c (a b : Cube) (h : BitVec 128) : ACalls Try.prog 7 [.agg (cb a), .agg (cb b), .agg (hd h)] (· = [.d (.v (.bool true))]) := by
  have sa := Sound_c a
  have sb := Sound_c b
  have hab : a.sound = true ∧ b.sound = true ∨ (a.sound = false ∨ b.sound = false) := by cases a.sound <;> cases b.sound <;> simp
  rcases hab with ⟨ha, hb⟩ | hab
  · have mt := Meet_c a b
    have ls := Less_cube_c a b
    have hm := Has_c (meetV a b) h
    have wt := Within_c a b
    have ht := Has_c a h
    have hlen := lessL_len a b
    have hw : ∀ k ∈ lessL a b, withinC k a = true := fun k hk => lessL_within ha hk
    have pc := parts_count ha hb h
    have ln := less_nil ha hb
    generalize lessL a b = L at ls hlen hw pc ln
    rw [ha] at sa
    rw [hb] at sb
    generalize meetV a b = K at mt hm pc
    cases h1 : meetO a b <;> cases h2 : hasC K h
    all_goals
      rw [h1] at mt pc
      rw [h2] at hm pc
      simp only [Bool.and_self, Bool.and_true, Bool.and_false, Bool.false_and] at pc
      refine acalls_of_awp Try.func7 rfl (by decide +kernel) (by rw [Try.ntmps7]; simp) ?_; rw [Try.ntmps7]; simp only [frOf]
      (repeat (first | refine awp_seq ?_ | refine awp_yes rfl ?_ | refine awp_no rfl ?_ | refine awp_block ?_ | (refine awp_region fun K hK => ?_) | (refine awp_draw (by kernel_rfl) (by kernel_rfl) fun K hK => ?_) | (refine awp_skip ?_; (first | show AWP _ _ _ _ _ | show loopQ _ _ _ _ _ _)) | (refine awp_exit ?_; (first | show AWP _ _ _ _ _ | show loopQ _ _ _ _ _ _)) | ((first | refine walkS_end (hK _ ?_) | refine walkD_end (hK _ _ (okTrace_spec (by kernel_rfl)) ?_)); clear hK K; (first | show AWP _ _ _ _ _ | show loopQ _ _ _ _ _ _)) | ((first | refine walkS_call3 rfl rfl rfl ?_ | refine walkD_call3 rfl rfl rfl ?_); simp (maxSteps := 2000000) (disch := omega) only [go_sem, ↓reduceIte, reduceCtorEq, Nat.reduceLT, Nat.reducePow, Nat.reduceLeDiff, Nat.reduceAdd, Nat.reduceMul, Nat.reduceSub, Nat.reduceEqDiff, Nat.reduceBEq, Int.reduceToNat, Int.reduceBEq, Int.reduceBNe, ty24, ty26, ty22, ty3, ty4, un4, ty9, ty36, ty41, hd, cb, eqty24, eqty26, hi_zero, lo_zero, eqI_self, bne_self_eq_false]; (first | refine ⟨_, awake2_c, ?_⟩ | refine ⟨_, sa, ?_⟩ | refine ⟨_, sb, ?_⟩ | refine ⟨_, mt, ?_⟩ | refine ⟨_, hm, ?_⟩ | refine ⟨_, ls, ?_⟩)) | ((first | refine walkS_run1 [] rfl ?_ | refine walkD_run1 [] rfl ?_); simp (maxSteps := 2000000) (disch := omega) only [go_sem, ↓reduceIte, reduceCtorEq, Nat.reduceLT, Nat.reducePow, Nat.reduceLeDiff, Nat.reduceAdd, Nat.reduceMul, Nat.reduceSub, Nat.reduceEqDiff, Nat.reduceBEq, Int.reduceToNat, Int.reduceBEq, Int.reduceBNe, ty24, ty26, ty22, ty3, ty4, un4, ty9, ty36, ty41, hd, cb, eqty24, eqty26, hi_zero, lo_zero, eqI_self, bne_self_eq_false]; (repeat (first | refine ⟨by omega, ?_⟩ | refine ⟨True.intro, ?_⟩)))))
      refine awp_loop (cubePartsI a b h (cnt (meetO a b && hasC K h)) L) (fun i => L.length - i.val) ⟨0, by omega⟩ ?_ (fun s => ?_)
      · unfold cubePartsI
        rw [h1, h2]
        refine Weak.list ?_ ?_; (all_goals simp (disch := omega) only [AllF, AllL, le_self, le_top, lle_self, exists_eq_left', Option.some.injEq, go_sem, ↓reduceIte, reduceCtorEq, Nat.reduceLT, Nat.reducePow, Nat.reduceLeDiff, Nat.reduceAdd, Nat.reduceMul, Nat.reduceSub, Nat.reduceEqDiff, Nat.reduceBEq, Int.reduceToNat, Int.reduceBEq, Int.reduceBNe, ty24, ty26, ty22, ty3, ty4, un4, ty9, ty36, ty41, hd, cb, eqty24, eqty26, hi_zero, lo_zero, eqI_self, bne_self_eq_false]); (all_goals (repeat' (with_reducible apply And.intro))); (all_goals try (first | exact le_eq rfl | (refine le_int ?_; omega) | (refine le_eq ?_; simp; done)))
      obtain ⟨i, hi⟩ := s
      unfold cubePartsI
      rw [h1, h2]
      simp only [cnt, Bool.and_self, Bool.and_true, Bool.and_false, Bool.false_and, Bool.false_eq_true, if_false, if_true] at pc ⊢
      by_cases hn : i < L.length
      · have hk := hw _ (getD_mem hn ⟨0, 0⟩)
        have r1 := row_at L i
        have ct := countP_take (hasC · h) L i ⟨0, 0⟩ hn
        have cl : (L.take i).countP (hasC · h) ≤ i := Nat.le_trans List.countP_le_length (by simp; omega)
        generalize L.getD i ⟨0, 0⟩ = Q at hk r1 ct
        have hq := Has_c Q h
        have wq := Within_c Q a
        rw [hk] at wq
        generalize List.countP (hasC · h) (L.take i) = m at ct cl
        cases h3 : hasC Q h
        all_goals
          rw [h3] at hq ct
          simp only [cnt, Bool.false_eq_true, if_false, if_true] at ct
          (repeat (first | refine awp_seq ?_ | refine awp_yes rfl ?_ | refine awp_no rfl ?_ | refine awp_block ?_ | (refine awp_region fun K hK => ?_) | (refine awp_draw (by kernel_rfl) (by kernel_rfl) fun K hK => ?_) | (refine awp_skip ?_; (first | show AWP _ _ _ _ _ | show loopQ _ _ _ _ _ _)) | (refine awp_exit ?_; (first | show AWP _ _ _ _ _ | show loopQ _ _ _ _ _ _)) | ((first | refine walkS_end (hK _ ?_) | refine walkD_end (hK _ _ (okTrace_spec (by kernel_rfl)) ?_)); clear hK K; (first | show AWP _ _ _ _ _ | show loopQ _ _ _ _ _ _)) | ((first | refine walkS_call3 rfl rfl rfl ?_ | refine walkD_call3 rfl rfl rfl ?_); simp (maxSteps := 2000000) (disch := omega) only [go_sem, ↓reduceIte, reduceCtorEq, Nat.reduceLT, Nat.reducePow, Nat.reduceLeDiff, Nat.reduceAdd, Nat.reduceMul, Nat.reduceSub, Nat.reduceEqDiff, Nat.reduceBEq, Int.reduceToNat, Int.reduceBEq, Int.reduceBNe, ty24, ty26, ty22, ty3, ty4, un4, ty9, ty36, ty41, hd, cb, eqty24, eqty26, hi_zero, lo_zero, eqI_self, bne_self_eq_false, r1, ct]; (first | refine ⟨_, hq, ?_⟩ | refine ⟨_, wq, ?_⟩)) | ((first | refine walkS_run1 [] rfl ?_ | refine walkD_run1 [] rfl ?_); simp (maxSteps := 2000000) (disch := omega) only [go_sem, ↓reduceIte, reduceCtorEq, Nat.reduceLT, Nat.reducePow, Nat.reduceLeDiff, Nat.reduceAdd, Nat.reduceMul, Nat.reduceSub, Nat.reduceEqDiff, Nat.reduceBEq, Int.reduceToNat, Int.reduceBEq, Int.reduceBNe, ty24, ty26, ty22, ty3, ty4, un4, ty9, ty36, ty41, hd, cb, eqty24, eqty26, hi_zero, lo_zero, eqI_self, bne_self_eq_false, r1, ct]; (repeat (first | refine ⟨by omega, ?_⟩ | refine ⟨True.intro, ?_⟩)))))
          refine ⟨⟨i + 1, by omega⟩, by simp only []; omega, ?_⟩
          refine Weak.list ?_ ?_; (all_goals simp (disch := omega) only [AllF, AllL, le_self, le_top, lle_self, exists_eq_left', Option.some.injEq, go_sem, ↓reduceIte, reduceCtorEq, Nat.reduceLT, Nat.reducePow, Nat.reduceLeDiff, Nat.reduceAdd, Nat.reduceMul, Nat.reduceSub, Nat.reduceEqDiff, Nat.reduceBEq, Int.reduceToNat, Int.reduceBEq, Int.reduceBNe, ty24, ty26, ty22, ty3, ty4, un4, ty9, ty36, ty41, hd, cb, eqty24, eqty26, hi_zero, lo_zero, eqI_self, bne_self_eq_false, r1, ct]); (all_goals (repeat' (with_reducible apply And.intro))); (all_goals try (first | exact le_eq rfl | (refine le_int ?_; omega) | (refine le_eq ?_; simp; done)))
      · have : i = L.length := by omega
        subst this
        rw [List.take_length]
        generalize List.countP (hasC · h) L = m at pc
        cases h4 : hasC a h <;> cases h5 : withinC a b
        all_goals
          rw [h4] at ht pc
          rw [h5] at wt ln
          simp only [cnt, Bool.false_eq_true, if_false, if_true, iff_false, iff_true] at pc ln
          try (exfalso; omega)
        all_goals rw [pc]
        all_goals first
          | skip
            subst ln
            (repeat (first | refine awp_seq ?_ | refine awp_yes rfl ?_ | refine awp_no rfl ?_ | refine awp_block ?_ | (refine awp_region fun K hK => ?_) | (refine awp_draw (by kernel_rfl) (by kernel_rfl) fun K hK => ?_) | (refine awp_skip ?_; (first | show AWP _ _ _ _ _ | show loopQ _ _ _ _ _ _)) | (refine awp_exit ?_; (first | show AWP _ _ _ _ _ | show loopQ _ _ _ _ _ _)) | ((first | refine walkS_end (hK _ ?_) | refine walkD_end (hK _ _ (okTrace_spec (by kernel_rfl)) ?_)); clear hK K; (first | show AWP _ _ _ _ _ | show loopQ _ _ _ _ _ _)) | ((first | refine walkS_call3 rfl rfl rfl ?_ | refine walkD_call3 rfl rfl rfl ?_); simp (maxSteps := 2000000) (disch := omega) only [go_sem, ↓reduceIte, reduceCtorEq, Nat.reduceLT, Nat.reducePow, Nat.reduceLeDiff, Nat.reduceAdd, Nat.reduceMul, Nat.reduceSub, Nat.reduceEqDiff, Nat.reduceBEq, Int.reduceToNat, Int.reduceBEq, Int.reduceBNe, ty24, ty26, ty22, ty3, ty4, un4, ty9, ty36, ty41, hd, cb, eqty24, eqty26, hi_zero, lo_zero, eqI_self, bne_self_eq_false]; (first | refine ⟨_, wt, ?_⟩ | refine ⟨_, ht, ?_⟩)) | ((first | refine walkS_run1 [] rfl ?_ | refine walkD_run1 [] rfl ?_); simp (maxSteps := 2000000) (disch := omega) only [go_sem, ↓reduceIte, reduceCtorEq, Nat.reduceLT, Nat.reducePow, Nat.reduceLeDiff, Nat.reduceAdd, Nat.reduceMul, Nat.reduceSub, Nat.reduceEqDiff, Nat.reduceBEq, Int.reduceToNat, Int.reduceBEq, Int.reduceBNe, ty24, ty26, ty22, ty3, ty4, un4, ty9, ty36, ty41, hd, cb, eqty24, eqty26, hi_zero, lo_zero, eqI_self, bne_self_eq_false]; (repeat (first | refine ⟨by omega, ?_⟩ | refine ⟨True.intro, ?_⟩)))))
            refine awp_ret ⟨_, ?_, rfl⟩; rw [Try.results7]; simp (disch := omega) only [ResVars, ResVar, ptrLoc, go_sem, ↓reduceIte, reduceCtorEq, Nat.reduceLT, Nat.reducePow, Nat.reduceLeDiff, Nat.reduceAdd, Nat.reduceMul, Nat.reduceSub, Nat.reduceEqDiff, Nat.reduceBEq, Int.reduceToNat, Int.reduceBEq, Int.reduceBNe, ty24, ty26, ty22, ty3, ty4, un4, ty9, ty36, ty41, hd, cb, eqty24, eqty26, hi_zero, lo_zero, eqI_self, bne_self_eq_false]
          | skip
            have hl : ((L.length : Int) == 0) = false := by
              rw [beq_eq_false_iff_ne]
              intro e
              exact ln (List.length_eq_zero_iff.1 (by omega))
            (repeat (first | refine awp_seq ?_ | refine awp_yes rfl ?_ | refine awp_no rfl ?_ | refine awp_block ?_ | (refine awp_region fun K hK => ?_) | (refine awp_draw (by kernel_rfl) (by kernel_rfl) fun K hK => ?_) | (refine awp_skip ?_; (first | show AWP _ _ _ _ _ | show loopQ _ _ _ _ _ _)) | (refine awp_exit ?_; (first | show AWP _ _ _ _ _ | show loopQ _ _ _ _ _ _)) | ((first | refine walkS_end (hK _ ?_) | refine walkD_end (hK _ _ (okTrace_spec (by kernel_rfl)) ?_)); clear hK K; (first | show AWP _ _ _ _ _ | show loopQ _ _ _ _ _ _)) | ((first | refine walkS_call3 rfl rfl rfl ?_ | refine walkD_call3 rfl rfl rfl ?_); simp (maxSteps := 2000000) (disch := omega) only [go_sem, ↓reduceIte, reduceCtorEq, Nat.reduceLT, Nat.reducePow, Nat.reduceLeDiff, Nat.reduceAdd, Nat.reduceMul, Nat.reduceSub, Nat.reduceEqDiff, Nat.reduceBEq, Int.reduceToNat, Int.reduceBEq, Int.reduceBNe, ty24, ty26, ty22, ty3, ty4, un4, ty9, ty36, ty41, hd, cb, eqty24, eqty26, hi_zero, lo_zero, eqI_self, bne_self_eq_false, hl]; (first | refine ⟨_, wt, ?_⟩ | refine ⟨_, ht, ?_⟩)) | ((first | refine walkS_run1 [] rfl ?_ | refine walkD_run1 [] rfl ?_); simp (maxSteps := 2000000) (disch := omega) only [go_sem, ↓reduceIte, reduceCtorEq, Nat.reduceLT, Nat.reducePow, Nat.reduceLeDiff, Nat.reduceAdd, Nat.reduceMul, Nat.reduceSub, Nat.reduceEqDiff, Nat.reduceBEq, Int.reduceToNat, Int.reduceBEq, Int.reduceBNe, ty24, ty26, ty22, ty3, ty4, un4, ty9, ty36, ty41, hd, cb, eqty24, eqty26, hi_zero, lo_zero, eqI_self, bne_self_eq_false, hl]; (repeat (first | refine ⟨by omega, ?_⟩ | refine ⟨True.intro, ?_⟩)))))
            refine awp_ret ⟨_, ?_, rfl⟩; rw [Try.results7]; simp (disch := omega) only [ResVars, ResVar, ptrLoc, go_sem, ↓reduceIte, reduceCtorEq, Nat.reduceLT, Nat.reducePow, Nat.reduceLeDiff, Nat.reduceAdd, Nat.reduceMul, Nat.reduceSub, Nat.reduceEqDiff, Nat.reduceBEq, Int.reduceToNat, Int.reduceBEq, Int.reduceBNe, ty24, ty26, ty22, ty3, ty4, un4, ty9, ty36, ty41, hd, cb, eqty24, eqty26, hi_zero, lo_zero, eqI_self, bne_self_eq_false, hl]
  · cases ha : a.sound <;> cases hb : b.sound
    all_goals
      rw [ha] at sa
      rw [hb] at sb
    rotate_right
    · rw [ha, hb] at hab; simp at hab
    all_goals
      refine acalls_of_awp Try.func7 rfl (by decide +kernel) (by rw [Try.ntmps7]; simp) ?_; rw [Try.ntmps7]; simp only [frOf]
      (repeat (first | refine awp_seq ?_ | refine awp_yes rfl ?_ | refine awp_no rfl ?_ | refine awp_block ?_ | (refine awp_region fun K hK => ?_) | (refine awp_draw (by kernel_rfl) (by kernel_rfl) fun K hK => ?_) | (refine awp_skip ?_; (first | show AWP _ _ _ _ _ | show loopQ _ _ _ _ _ _)) | (refine awp_exit ?_; (first | show AWP _ _ _ _ _ | show loopQ _ _ _ _ _ _)) | ((first | refine walkS_end (hK _ ?_) | refine walkD_end (hK _ _ (okTrace_spec (by kernel_rfl)) ?_)); clear hK K; (first | show AWP _ _ _ _ _ | show loopQ _ _ _ _ _ _)) | ((first | refine walkS_call3 rfl rfl rfl ?_ | refine walkD_call3 rfl rfl rfl ?_); simp (maxSteps := 2000000) (disch := omega) only [go_sem, ↓reduceIte, reduceCtorEq, Nat.reduceLT, Nat.reducePow, Nat.reduceLeDiff, Nat.reduceAdd, Nat.reduceMul, Nat.reduceSub, Nat.reduceEqDiff, Nat.reduceBEq, Int.reduceToNat, Int.reduceBEq, Int.reduceBNe, ty24, ty26, ty22, ty3, ty4, un4, ty9, ty36, ty41, hd, cb, eqty24, eqty26, hi_zero, lo_zero, eqI_self, bne_self_eq_false]; (first | refine ⟨_, sa, ?_⟩ | refine ⟨_, sb, ?_⟩ | refine ⟨_, awake2_c, ?_⟩)) | ((first | refine walkS_run1 [] rfl ?_ | refine walkD_run1 [] rfl ?_); simp (maxSteps := 2000000) (disch := omega) only [go_sem, ↓reduceIte, reduceCtorEq, Nat.reduceLT, Nat.reducePow, Nat.reduceLeDiff, Nat.reduceAdd, Nat.reduceMul, Nat.reduceSub, Nat.reduceEqDiff, Nat.reduceBEq, Int.reduceToNat, Int.reduceBEq, Int.reduceBNe, ty24, ty26, ty22, ty3, ty4, un4, ty9, ty36, ty41, hd, cb, eqty24, eqty26, hi_zero, lo_zero, eqI_self, bne_self_eq_false]; (repeat (first | refine ⟨by omega, ?_⟩ | refine ⟨True.intro, ?_⟩)))))
      refine awp_ret ⟨_, ?_, rfl⟩; rw [Try.results7]; simp (disch := omega) only [ResVars, ResVar, ptrLoc, go_sem, ↓reduceIte, reduceCtorEq, Nat.reduceLT, Nat.reducePow, Nat.reduceLeDiff, Nat.reduceAdd, Nat.reduceMul, Nat.reduceSub, Nat.reduceEqDiff, Nat.reduceBEq, Int.reduceToNat, Int.reduceBEq, Int.reduceBNe, ty24, ty26, ty22, ty3, ty4, un4, ty9, ty36, ty41, hd, cb, eqty24, eqty26, hi_zero, lo_zero, eqI_self, bne_self_eq_false]
end Go.Proofs.Ytfcfhlfehomhpaa
