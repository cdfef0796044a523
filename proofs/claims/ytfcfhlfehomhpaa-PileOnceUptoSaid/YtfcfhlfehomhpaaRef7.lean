/- The document's package of layer 3, on: Meet, Less. Conditions: none, but that no row is greater than memory bears. -/
import Derived.Test.YtfcfhlfehomhpaaPileLean
import Derived.Test.YtfcfhlfehomhpaaMeets
import Derived.Test.YtfcfhlfehomhpaaPileSet
set_option linter.unusedSimpArgs false
set_option linter.unusedVariables false
namespace Go.Proofs.Ytfcfhlfehomhpaa
open Go.Proofs.Ytfcfhlfehomhpaa.AL
theorem meetO_sound {x y : Cube} (hx : x.sound = true) (hy : y.sound = true) : meetO x y = (apart x y == 0) := by unfold meetO; rw [hx, hy]; rfl
theorem meetT_meetV {x y : Cube} (hx : x.sound = true) (hy : y.sound = true) (h : meetO x y = true) : meetT x y = meetV x y := by
  rw [meet_text hx hy]; unfold meetV; rw [h]; rfl
def meetTI (a b : List Cube) (s : {s : Nat × List Cube // s.1 ≤ a.length ∧ s.2 = (a.take s.1).flatMap (meetRow b) ∧ s.2.length ≤ s.1 * b.length}) : ASt :=
  ⟨[(6, .p (.d (.v (.int .i64 (s.val.1 : Int))))), (5, .gr 10 s.val.2.length 1 s.val.2.length (rowT s.val.2)), (1, .p (.d (.sl 1 b.length (rowT b)))), (0, .p (.d (.sl 1 a.length (rowT a))))],
   [(10, .grow 9 1 s.val.2.length s.val.2.length)]⟩
def meetTJ (a b : List Cube) (x : Cube) (i : Nat) (pre : List Cube) (s : {s : Nat × List Cube // s.1 ≤ b.length ∧ s.2 = pre ++ (b.take s.1).filterMap (meetOne x) ∧ s.2.length ≤ pre.length + s.1}) : ASt :=
  ⟨[(7, .p (.d (.v (.int .i64 (s.val.1 : Int))))), (6, .p (.d (.v (.int .i64 (i : Int))))), (5, .gr 10 s.val.2.length 1 s.val.2.length (rowT s.val.2)), (1, .p (.d (.sl 1 b.length (rowT b)))), (0, .p (.d (.sl 1 a.length (rowT a))))],
   [(10, .grow 9 1 s.val.2.length s.val.2.length)]⟩
set_option maxRecDepth 100000 in
set_option maxHeartbeats 2000000 in
theorem MeetTP_c (a b : List Cube) (sa : ∀ k ∈ a, k.sound = true) (sb : ∀ k ∈ b, k.sound = true) (ha : a.length ≤ 200) (hb : b.length ≤ 200) : ACalls Try.prog 51 [.d (.sl 1 a.length (rowT a)), .d (.sl 1 b.length (rowT b))]
    (· = [.d (.sl 1 (meetsP a b).length (rowT (meetsP a b)))]) := by
  refine acalls_of_awp Try.func51 rfl (by decide +kernel) (by rw [Try.ntmps51]; simp) ?_; rw [Try.ntmps51]; simp only [frOf]
  (repeat (first | refine awp_seq ?_ | refine awp_yes rfl ?_ | refine awp_no rfl ?_ | refine awp_block ?_ | (refine awp_region fun K hK => ?_) | (refine awp_draw (by kernel_rfl) (by kernel_rfl) fun K hK => ?_) | (refine awp_skip ?_; (first | show AWP _ _ _ _ _ | show loopQ _ _ _ _ _ _)) | (refine awp_exit ?_; (first | show AWP _ _ _ _ _ | show loopQ _ _ _ _ _ _)) | ((first | refine walkS_end (hK _ ?_) | refine walkD_end (hK _ _ (okTrace_spec (by kernel_rfl)) ?_)); clear hK K; (first | show AWP _ _ _ _ _ | show loopQ _ _ _ _ _ _)) | ((first | refine walkS_run1 [10] rfl ?_ | refine walkD_run1 [10] rfl ?_); simp (maxSteps := 2000000) (disch := omega) only [go_sem, ↓reduceIte, reduceCtorEq, Nat.reduceLT, Nat.reducePow, Nat.reduceLeDiff, Nat.reduceAdd, Nat.reduceMul, Nat.reduceSub, Nat.reduceEqDiff, Nat.reduceBEq, Int.reduceToNat, Int.reduceBEq, Int.reduceBNe, ty24, ty26, ty36, ty22, ty3, ty4, ty9, ty41, un4, hd, cb, eqty24, eqty26]; (repeat (first | refine ⟨by omega, ?_⟩ | refine ⟨True.intro, ?_⟩)))))
  refine awp_loop (meetTI a b) (fun s => a.length - s.val.1) ⟨(0, []), by simp, by simp, by simp⟩ ?_ (fun s => ?_)
  · unfold meetTI
    refine Weak.list ?_ ?_; (all_goals simp (disch := omega) only [AllF, AllL, le_self, le_top, lle_self, exists_eq_left', Option.some.injEq, go_sem, ↓reduceIte, reduceCtorEq, Nat.reduceLT, Nat.reducePow, Nat.reduceLeDiff, Nat.reduceAdd, Nat.reduceMul, Nat.reduceSub, Nat.reduceEqDiff, Nat.reduceBEq, Int.reduceToNat, Int.reduceBEq, Int.reduceBNe, ty24, ty26, ty36, ty22, ty3, ty4, ty9, ty41, un4, hd, cb, eqty24, eqty26]); (all_goals (repeat' (with_reducible apply And.intro))); (all_goals try (first | exact le_eq rfl | (refine le_int ?_; omega) | (refine le_eq ?_; simp; done)))
    exact le_grgr rfl rfl (fun i hi => by omega)
  obtain ⟨⟨i, out⟩, hi, he, ho⟩ := s
  unfold meetTI
  simp only [] at hi he ho
  have hio : i * b.length ≤ 200 * 200 := Nat.mul_le_mul (by omega) hb
  by_cases hn : i < a.length
  · have r1 := rowT_of a i
    have st := take_succ_getD a i ⟨0, 0⟩ hn
    have sX := sa _ (getD_in hn ⟨0, 0⟩)
    generalize a.getD i ⟨0, 0⟩ = X at r1 st sX
    (repeat (first | refine awp_seq ?_ | refine awp_yes rfl ?_ | refine awp_no rfl ?_ | refine awp_block ?_ | (refine awp_region fun K hK => ?_) | (refine awp_draw (by kernel_rfl) (by kernel_rfl) fun K hK => ?_) | (refine awp_skip ?_; (first | show AWP _ _ _ _ _ | show loopQ _ _ _ _ _ _)) | (refine awp_exit ?_; (first | show AWP _ _ _ _ _ | show loopQ _ _ _ _ _ _)) | ((first | refine walkS_end (hK _ ?_) | refine walkD_end (hK _ _ (okTrace_spec (by kernel_rfl)) ?_)); clear hK K; (first | show AWP _ _ _ _ _ | show loopQ _ _ _ _ _ _)) | ((first | refine walkS_run1 [10] rfl ?_ | refine walkD_run1 [10] rfl ?_); simp (maxSteps := 2000000) (disch := omega) only [go_sem, ↓reduceIte, reduceCtorEq, Nat.reduceLT, Nat.reducePow, Nat.reduceLeDiff, Nat.reduceAdd, Nat.reduceMul, Nat.reduceSub, Nat.reduceEqDiff, Nat.reduceBEq, Int.reduceToNat, Int.reduceBEq, Int.reduceBNe, ty24, ty26, ty36, ty22, ty3, ty4, ty9, ty41, un4, hd, cb, eqty24, eqty26]; (repeat (first | refine ⟨by omega, ?_⟩ | refine ⟨True.intro, ?_⟩)))))
    refine awp_loop (meetTJ a b X i out) (fun s => b.length - s.val.1) ⟨(0, out), by simp, by simp, by simp⟩ ?_ (fun s => ?_)
    · unfold meetTJ
      refine Weak.list ?_ ?_; (all_goals simp (disch := omega) only [AllF, AllL, le_self, le_top, lle_self, exists_eq_left', Option.some.injEq, go_sem, ↓reduceIte, reduceCtorEq, Nat.reduceLT, Nat.reducePow, Nat.reduceLeDiff, Nat.reduceAdd, Nat.reduceMul, Nat.reduceSub, Nat.reduceEqDiff, Nat.reduceBEq, Int.reduceToNat, Int.reduceBEq, Int.reduceBNe, ty24, ty26, ty36, ty22, ty3, ty4, ty9, ty41, un4, hd, cb, eqty24, eqty26]); (all_goals (repeat' (with_reducible apply And.intro))); (all_goals try (first | exact le_eq rfl | (refine le_int ?_; omega) | (refine le_eq ?_; simp; done)))
    obtain ⟨⟨j, ou2⟩, hj, he2, ho2⟩ := s
    unfold meetTJ
    simp only [] at hj he2 ho2
    by_cases hm : j < b.length
    · have r2 := rowT_of b j
      have st2 := take_succ_getD b j ⟨0, 0⟩ hm
      have sY := sb _ (getD_in hm ⟨0, 0⟩)
      generalize b.getD j ⟨0, 0⟩ = Y at r2 st2 sY
      have mt := MeetT_c X Y
      have mo := meetO_sound sX sY
      have mv := @meetT_meetV X Y sX sY
      have so : (b.take (j + 1)).filterMap (meetOne X) = (b.take j).filterMap (meetOne X) ++ (if meetO X Y then [meetV X Y] else []) := by
        rw [st2, List.filterMap_append]
        congr 1
        cases h : meetO X Y <;> simp [meetOne, h]
      rw [← mo] at mt
      generalize meetV X Y = V at mv so
      generalize txt X = tX at r1 mt
      generalize txt Y = tY at r2 mt
      cases h : meetO X Y
      · rw [h] at mt so
        simp only [Bool.false_eq_true, if_false, if_true] at mt so
        (repeat (first | refine awp_seq ?_ | refine awp_yes rfl ?_ | refine awp_no rfl ?_ | refine awp_block ?_ | (refine awp_region fun K hK => ?_) | (refine awp_draw (by kernel_rfl) (by kernel_rfl) fun K hK => ?_) | (refine awp_skip ?_; (first | show AWP _ _ _ _ _ | show loopQ _ _ _ _ _ _)) | (refine awp_exit ?_; (first | show AWP _ _ _ _ _ | show loopQ _ _ _ _ _ _)) | ((first | refine walkS_end (hK _ ?_) | refine walkD_end (hK _ _ (okTrace_spec (by kernel_rfl)) ?_)); clear hK K; (first | show AWP _ _ _ _ _ | show loopQ _ _ _ _ _ _)) | ((first | refine walkS_call3 rfl rfl rfl ?_ | refine walkD_call3 rfl rfl rfl ?_); simp (maxSteps := 2000000) (disch := omega) only [go_sem, ↓reduceIte, reduceCtorEq, Nat.reduceLT, Nat.reducePow, Nat.reduceLeDiff, Nat.reduceAdd, Nat.reduceMul, Nat.reduceSub, Nat.reduceEqDiff, Nat.reduceBEq, Int.reduceToNat, Int.reduceBEq, Int.reduceBNe, ty24, ty26, ty36, ty22, ty3, ty4, ty9, ty41, un4, hd, cb, eqty24, eqty26, r1, r2]; (first | refine ⟨_, mt, ?_⟩)) | ((first | refine walkS_run1 [10] rfl ?_ | refine walkD_run1 [10] rfl ?_); simp (maxSteps := 2000000) (disch := omega) only [go_sem, ↓reduceIte, reduceCtorEq, Nat.reduceLT, Nat.reducePow, Nat.reduceLeDiff, Nat.reduceAdd, Nat.reduceMul, Nat.reduceSub, Nat.reduceEqDiff, Nat.reduceBEq, Int.reduceToNat, Int.reduceBEq, Int.reduceBNe, ty24, ty26, ty36, ty22, ty3, ty4, ty9, ty41, un4, hd, cb, eqty24, eqty26, r1, r2]; (repeat (first | refine ⟨by omega, ?_⟩ | refine ⟨True.intro, ?_⟩)))))
        refine ⟨⟨(j + 1, ou2), by simp only []; omega, by rw [so, List.append_nil]; exact he2, by simp only []; omega⟩, by simp only []; omega, ?_⟩
        refine Weak.list ?_ ?_; (all_goals simp (disch := omega) only [AllF, AllL, le_self, le_top, lle_self, exists_eq_left', Option.some.injEq, go_sem, ↓reduceIte, reduceCtorEq, Nat.reduceLT, Nat.reducePow, Nat.reduceLeDiff, Nat.reduceAdd, Nat.reduceMul, Nat.reduceSub, Nat.reduceEqDiff, Nat.reduceBEq, Int.reduceToNat, Int.reduceBEq, Int.reduceBNe, ty24, ty26, ty36, ty22, ty3, ty4, ty9, ty41, un4, hd, cb, eqty24, eqty26, r1, r2]); (all_goals (repeat' (with_reducible apply And.intro))); (all_goals try (first | exact le_eq rfl | (refine le_int ?_; omega) | (refine le_eq ?_; simp; done)))
      · rw [h] at mt so
        rw [mv h] at mt
        simp only [Bool.false_eq_true, if_false, if_true] at mt so
        (repeat (first | refine awp_seq ?_ | refine awp_yes rfl ?_ | refine awp_no rfl ?_ | refine awp_block ?_ | (refine awp_region fun K hK => ?_) | (refine awp_draw (by kernel_rfl) (by kernel_rfl) fun K hK => ?_) | (refine awp_skip ?_; (first | show AWP _ _ _ _ _ | show loopQ _ _ _ _ _ _)) | (refine awp_exit ?_; (first | show AWP _ _ _ _ _ | show loopQ _ _ _ _ _ _)) | ((first | refine walkS_end (hK _ ?_) | refine walkD_end (hK _ _ (okTrace_spec (by kernel_rfl)) ?_)); clear hK K; (first | show AWP _ _ _ _ _ | show loopQ _ _ _ _ _ _)) | ((first | refine walkS_call3 rfl rfl rfl ?_ | refine walkD_call3 rfl rfl rfl ?_); simp (maxSteps := 2000000) (disch := omega) only [go_sem, ↓reduceIte, reduceCtorEq, Nat.reduceLT, Nat.reducePow, Nat.reduceLeDiff, Nat.reduceAdd, Nat.reduceMul, Nat.reduceSub, Nat.reduceEqDiff, Nat.reduceBEq, Int.reduceToNat, Int.reduceBEq, Int.reduceBNe, ty24, ty26, ty36, ty22, ty3, ty4, ty9, ty41, un4, hd, cb, eqty24, eqty26, r1, r2]; (first | refine ⟨_, mt, ?_⟩)) | ((first | refine walkS_run1 [10] rfl ?_ | refine walkD_run1 [10] rfl ?_); simp (maxSteps := 2000000) (disch := omega) only [go_sem, ↓reduceIte, reduceCtorEq, Nat.reduceLT, Nat.reducePow, Nat.reduceLeDiff, Nat.reduceAdd, Nat.reduceMul, Nat.reduceSub, Nat.reduceEqDiff, Nat.reduceBEq, Int.reduceToNat, Int.reduceBEq, Int.reduceBNe, ty24, ty26, ty36, ty22, ty3, ty4, ty9, ty41, un4, hd, cb, eqty24, eqty26, r1, r2]; (repeat (first | refine ⟨by omega, ?_⟩ | refine ⟨True.intro, ?_⟩)))))
        refine ⟨⟨(j + 1, ou2 ++ [V]), by simp only []; omega, by rw [so, ← List.append_assoc, ← he2], by simp; omega⟩, by simp only []; omega, ?_⟩
        refine Weak.list ?_ ?_; (all_goals simp (disch := omega) only [AllF, AllL, le_self, le_top, lle_self, exists_eq_left', Option.some.injEq, go_sem, ↓reduceIte, reduceCtorEq, Nat.reduceLT, Nat.reducePow, Nat.reduceLeDiff, Nat.reduceAdd, Nat.reduceMul, Nat.reduceSub, Nat.reduceEqDiff, Nat.reduceBEq, Int.reduceToNat, Int.reduceBEq, Int.reduceBNe, ty24, ty26, ty36, ty22, ty3, ty4, ty9, ty41, un4, hd, cb, eqty24, eqty26, r1, r2]); (all_goals (repeat' (with_reducible apply And.intro))); (all_goals try (first | exact le_eq rfl | (refine le_int ?_; omega) | (refine le_eq ?_; simp; done)))
        · exact le_grgr (by simp) (by simp) (fun k hk => rowT_put ou2 V k hk)
        · exact lle_grow (by simp) (by simp)
    · have hjl : j = b.length := by omega
      subst hjl
      (repeat (first | refine awp_seq ?_ | refine awp_yes rfl ?_ | refine awp_no rfl ?_ | refine awp_block ?_ | (refine awp_region fun K hK => ?_) | (refine awp_draw (by kernel_rfl) (by kernel_rfl) fun K hK => ?_) | (refine awp_skip ?_; (first | show AWP _ _ _ _ _ | show loopQ _ _ _ _ _ _)) | (refine awp_exit ?_; (first | show AWP _ _ _ _ _ | show loopQ _ _ _ _ _ _)) | ((first | refine walkS_end (hK _ ?_) | refine walkD_end (hK _ _ (okTrace_spec (by kernel_rfl)) ?_)); clear hK K; (first | show AWP _ _ _ _ _ | show loopQ _ _ _ _ _ _)) | ((first | refine walkS_run1 [10] rfl ?_ | refine walkD_run1 [10] rfl ?_); simp (maxSteps := 2000000) (disch := omega) only [go_sem, ↓reduceIte, reduceCtorEq, Nat.reduceLT, Nat.reducePow, Nat.reduceLeDiff, Nat.reduceAdd, Nat.reduceMul, Nat.reduceSub, Nat.reduceEqDiff, Nat.reduceBEq, Int.reduceToNat, Int.reduceBEq, Int.reduceBNe, ty24, ty26, ty36, ty22, ty3, ty4, ty9, ty41, un4, hd, cb, eqty24, eqty26, r1]; (repeat (first | refine ⟨by omega, ?_⟩ | refine ⟨True.intro, ?_⟩)))))
      refine ⟨⟨(i + 1, ou2), by simp only []; omega, ?_, ?_⟩, by simp only []; omega, ?_⟩
      · rw [st, List.flatMap_append, ← he, he2, List.take_length]
        simp [meetRow]
      · simp only []
        rw [Nat.add_mul, Nat.one_mul]; omega
      refine Weak.list ?_ ?_; (all_goals simp (disch := omega) only [AllF, AllL, le_self, le_top, lle_self, exists_eq_left', Option.some.injEq, go_sem, ↓reduceIte, reduceCtorEq, Nat.reduceLT, Nat.reducePow, Nat.reduceLeDiff, Nat.reduceAdd, Nat.reduceMul, Nat.reduceSub, Nat.reduceEqDiff, Nat.reduceBEq, Int.reduceToNat, Int.reduceBEq, Int.reduceBNe, ty24, ty26, ty36, ty22, ty3, ty4, ty9, ty41, un4, hd, cb, eqty24, eqty26, r1]); (all_goals (repeat' (with_reducible apply And.intro))); (all_goals try (first | exact le_eq rfl | (refine le_int ?_; omega) | (refine le_eq ?_; simp; done)))
  · have hil : i = a.length := by omega
    subst hil
    rw [List.take_length] at he
    have : out = meetsP a b := he
    rw [← this]
    (repeat (first | refine awp_seq ?_ | refine awp_yes rfl ?_ | refine awp_no rfl ?_ | refine awp_block ?_ | (refine awp_region fun K hK => ?_) | (refine awp_draw (by kernel_rfl) (by kernel_rfl) fun K hK => ?_) | (refine awp_skip ?_; (first | show AWP _ _ _ _ _ | show loopQ _ _ _ _ _ _)) | (refine awp_exit ?_; (first | show AWP _ _ _ _ _ | show loopQ _ _ _ _ _ _)) | ((first | refine walkS_end (hK _ ?_) | refine walkD_end (hK _ _ (okTrace_spec (by kernel_rfl)) ?_)); clear hK K; (first | show AWP _ _ _ _ _ | show loopQ _ _ _ _ _ _)) | ((first | refine walkS_run1 [10] rfl ?_ | refine walkD_run1 [10] rfl ?_); simp (maxSteps := 2000000) (disch := omega) only [go_sem, ↓reduceIte, reduceCtorEq, Nat.reduceLT, Nat.reducePow, Nat.reduceLeDiff, Nat.reduceAdd, Nat.reduceMul, Nat.reduceSub, Nat.reduceEqDiff, Nat.reduceBEq, Int.reduceToNat, Int.reduceBEq, Int.reduceBNe, ty24, ty26, ty36, ty22, ty3, ty4, ty9, ty41, un4, hd, cb, eqty24, eqty26]; (repeat (first | refine ⟨by omega, ?_⟩ | refine ⟨True.intro, ?_⟩)))))
    refine awp_slot 4 _ (.p (.d (.sl 1 out.length (rowT out)))) rfl (le_gr rfl (fun _ _ => rfl)) ?_
    refine awp_ret ⟨_, ?_, rfl⟩; rw [Try.results51]; simp (disch := omega) only [ResVars, ResVar, ptrLoc, go_sem, ↓reduceIte, reduceCtorEq, Nat.reduceLT, Nat.reducePow, Nat.reduceLeDiff, Nat.reduceAdd, Nat.reduceMul, Nat.reduceSub, Nat.reduceEqDiff, Nat.reduceBEq, Int.reduceToNat, Int.reduceBEq, Int.reduceBNe, ty24, ty26, ty36, ty22, ty3, ty4, ty9, ty41, un4, hd, cb, eqty24, eqty26]
def lessTPI (b : List Cube) (R : List Cube × Int) (s : {s : Nat × List Cube // s.1 ≤ b.length ∧ lessP (b.drop s.1) s.2 = R ∧ s.2.length ≤ 200 ∧ ∀ k ∈ s.2, k.sound = true}) : ASt :=
  ⟨[(6, .p (.d (.v (.int .i64 (s.val.1 : Int))))), (1, .p (.d (.sl 1 b.length (rowT b)))), (0, .p (.d (.sl 1 s.val.2.length (rowT s.val.2))))], []⟩
def lessTPJ (b out : List Cube) (y : Cube) (i : Nat) (s : {s : Nat × List Cube // s.1 ≤ out.length ∧ s.2 = (out.take s.1).flatMap (fun x => lessL x y) ∧ s.2.length ≤ s.1 * 128}) : ASt :=
  ⟨[(8, .p (.d (.v (.int .i64 (s.val.1 : Int))))), (7, .gr 15 s.val.1 1 s.val.2.length (rowT s.val.2)), (6, .p (.d (.v (.int .i64 (i : Int))))), (1, .p (.d (.sl 1 b.length (rowT b)))), (0, .p (.d (.sl 1 out.length (rowT out))))],
   [(15, .grow 9 1 s.val.2.length s.val.1)]⟩
theorem rowT_cat (a b : List Cube) (i : Nat) : catF a.length (rowT a) (rowT b) i = rowT (a ++ b) i := by
  unfold catF rowT
  simp only [List.getD_eq_getElem?_getD]
  split
  · rw [List.getElem?_append_left (by assumption)]
  · rw [List.getElem?_append_right (by omega)]
set_option maxRecDepth 100000 in
set_option maxHeartbeats 2000000 in
theorem LessTP_c (a b : List Cube) (sa : ∀ k ∈ a, k.sound = true) (sb : ∀ k ∈ b, k.sound = true) (ha : a.length ≤ 200) (hb : b.length ≤ 200) (R : List Cube × Int) (hR : lessP b a = R) : ACalls Try.prog 52 [.d (.sl 1 a.length (rowT a)), .d (.sl 1 b.length (rowT b))]
    (· = [.d (.sl 1 R.1.length (rowT R.1)), .d (.v (.bool (R.2 == 0)))]) := by
  refine acalls_of_awp Try.func52 rfl (by decide +kernel) (by rw [Try.ntmps52]; simp) ?_; rw [Try.ntmps52]; simp only [frOf]
  (repeat (first | refine awp_seq ?_ | refine awp_yes rfl ?_ | refine awp_no rfl ?_ | refine awp_block ?_ | (refine awp_region fun K hK => ?_) | (refine awp_draw (by kernel_rfl) (by kernel_rfl) fun K hK => ?_) | (refine awp_skip ?_; (first | show AWP _ _ _ _ _ | show loopQ _ _ _ _ _ _)) | (refine awp_exit ?_; (first | show AWP _ _ _ _ _ | show loopQ _ _ _ _ _ _)) | ((first | refine walkS_end (hK _ ?_) | refine walkD_end (hK _ _ (okTrace_spec (by kernel_rfl)) ?_)); clear hK K; (first | show AWP _ _ _ _ _ | show loopQ _ _ _ _ _ _)) | ((first | refine walkS_run1 [15] rfl ?_ | refine walkD_run1 [15] rfl ?_); simp (maxSteps := 2000000) (disch := omega) only [go_sem, ↓reduceIte, reduceCtorEq, Nat.reduceLT, Nat.reducePow, Nat.reduceLeDiff, Nat.reduceAdd, Nat.reduceMul, Nat.reduceSub, Nat.reduceEqDiff, Nat.reduceBEq, Int.reduceToNat, Int.reduceBEq, Int.reduceBNe, ty24, ty26, ty36, ty22, ty3, ty4, ty9, ty41, un4, hd, cb, eqty24, eqty26]; (repeat (first | refine ⟨by omega, ?_⟩ | refine ⟨True.intro, ?_⟩)))))
  refine awp_loop (lessTPI b R) (fun s => b.length - s.val.1) ⟨(0, a), by simp, by rw [List.drop_zero]; exact hR, ha, sa⟩ ?_ (fun s => ?_)
  · unfold lessTPI
    refine Weak.list ?_ ?_; (all_goals simp (disch := omega) only [AllF, AllL, le_self, le_top, lle_self, exists_eq_left', Option.some.injEq, go_sem, ↓reduceIte, reduceCtorEq, Nat.reduceLT, Nat.reducePow, Nat.reduceLeDiff, Nat.reduceAdd, Nat.reduceMul, Nat.reduceSub, Nat.reduceEqDiff, Nat.reduceBEq, Int.reduceToNat, Int.reduceBEq, Int.reduceBNe, ty24, ty26, ty36, ty22, ty3, ty4, ty9, ty41, un4, hd, cb, eqty24, eqty26]); (all_goals (repeat' (with_reducible apply And.intro))); (all_goals try (first | exact le_eq rfl | (refine le_int ?_; omega) | (refine le_eq ?_; simp; done)))
  obtain ⟨⟨i, out⟩, hi, he, ho, hs⟩ := s
  unfold lessTPI
  simp only [] at hi he ho hs
  by_cases hn : i < b.length
  · have r1 := rowT_of b i
    rw [drop_getD b i ⟨0, 0⟩ hn] at he
    have sY := sb _ (getD_in hn ⟨0, 0⟩)
    generalize b.getD i ⟨0, 0⟩ = Y at r1 he sY
    (repeat (first | refine awp_seq ?_ | refine awp_yes rfl ?_ | refine awp_no rfl ?_ | refine awp_block ?_ | (refine awp_region fun K hK => ?_) | (refine awp_draw (by kernel_rfl) (by kernel_rfl) fun K hK => ?_) | (refine awp_skip ?_; (first | show AWP _ _ _ _ _ | show loopQ _ _ _ _ _ _)) | (refine awp_exit ?_; (first | show AWP _ _ _ _ _ | show loopQ _ _ _ _ _ _)) | ((first | refine walkS_end (hK _ ?_) | refine walkD_end (hK _ _ (okTrace_spec (by kernel_rfl)) ?_)); clear hK K; (first | show AWP _ _ _ _ _ | show loopQ _ _ _ _ _ _)) | ((first | refine walkS_run1 [15] rfl ?_ | refine walkD_run1 [15] rfl ?_); simp (maxSteps := 2000000) (disch := omega) only [go_sem, ↓reduceIte, reduceCtorEq, Nat.reduceLT, Nat.reducePow, Nat.reduceLeDiff, Nat.reduceAdd, Nat.reduceMul, Nat.reduceSub, Nat.reduceEqDiff, Nat.reduceBEq, Int.reduceToNat, Int.reduceBEq, Int.reduceBNe, ty24, ty26, ty36, ty22, ty3, ty4, ty9, ty41, un4, hd, cb, eqty24, eqty26, r1]; (repeat (first | refine ⟨by omega, ?_⟩ | refine ⟨True.intro, ?_⟩)))))
    refine awp_loop (lessTPJ b out Y i) (fun s => out.length - s.val.1) ⟨(0, []), by simp, by simp, by simp⟩ ?_ (fun s => ?_)
    · unfold lessTPJ
      refine Weak.list ?_ ?_; (all_goals simp (disch := omega) only [AllF, AllL, le_self, le_top, lle_self, exists_eq_left', Option.some.injEq, go_sem, ↓reduceIte, reduceCtorEq, Nat.reduceLT, Nat.reducePow, Nat.reduceLeDiff, Nat.reduceAdd, Nat.reduceMul, Nat.reduceSub, Nat.reduceEqDiff, Nat.reduceBEq, Int.reduceToNat, Int.reduceBEq, Int.reduceBNe, ty24, ty26, ty36, ty22, ty3, ty4, ty9, ty41, un4, hd, cb, eqty24, eqty26, r1]); (all_goals (repeat' (with_reducible apply And.intro))); (all_goals try (first | exact le_eq rfl | (refine le_int ?_; omega) | (refine le_eq ?_; simp; done)))
      exact le_grgr rfl rfl (fun i hi => by omega)
    obtain ⟨⟨j, rest⟩, hj, he2, ho2⟩ := s
    unfold lessTPJ
    simp only [] at hj he2 ho2
    by_cases hm : j < out.length
    · have r2 := rowT_of out j
      have st2 := take_succ_getD out j ⟨0, 0⟩ hm
      have sX := hs _ (getD_in hm ⟨0, 0⟩)
      generalize out.getD j ⟨0, 0⟩ = X at r2 st2 sX
      have ls := LessT_c X Y sX sY
      have ll := lessL_len' X Y
      have so : (out.take (j + 1)).flatMap (fun x => lessL x Y) = (out.take j).flatMap (fun x => lessL x Y) ++ lessL X Y := by
        rw [st2, List.flatMap_append]; simp
      generalize lessL X Y = K at ls ll so
      generalize txt X = tX at r2 ls
      generalize txt Y = tY at r1 ls
      (repeat (first | refine awp_seq ?_ | refine awp_yes rfl ?_ | refine awp_no rfl ?_ | refine awp_block ?_ | (refine awp_region fun K hK => ?_) | (refine awp_draw (by kernel_rfl) (by kernel_rfl) fun K hK => ?_) | (refine awp_skip ?_; (first | show AWP _ _ _ _ _ | show loopQ _ _ _ _ _ _)) | (refine awp_exit ?_; (first | show AWP _ _ _ _ _ | show loopQ _ _ _ _ _ _)) | ((first | refine walkS_end (hK _ ?_) | refine walkD_end (hK _ _ (okTrace_spec (by kernel_rfl)) ?_)); clear hK K; (first | show AWP _ _ _ _ _ | show loopQ _ _ _ _ _ _)) | ((first | refine walkS_call3 rfl rfl rfl ?_ | refine walkD_call3 rfl rfl rfl ?_); simp (maxSteps := 2000000) (disch := omega) only [go_sem, ↓reduceIte, reduceCtorEq, Nat.reduceLT, Nat.reducePow, Nat.reduceLeDiff, Nat.reduceAdd, Nat.reduceMul, Nat.reduceSub, Nat.reduceEqDiff, Nat.reduceBEq, Int.reduceToNat, Int.reduceBEq, Int.reduceBNe, ty24, ty26, ty36, ty22, ty3, ty4, ty9, ty41, un4, hd, cb, eqty24, eqty26, r1, r2]; (first | refine ⟨_, ls, ?_⟩)) | ((first | refine walkS_run1 [15] rfl ?_ | refine walkD_run1 [15] rfl ?_); simp (maxSteps := 2000000) (disch := omega) only [go_sem, ↓reduceIte, reduceCtorEq, Nat.reduceLT, Nat.reducePow, Nat.reduceLeDiff, Nat.reduceAdd, Nat.reduceMul, Nat.reduceSub, Nat.reduceEqDiff, Nat.reduceBEq, Int.reduceToNat, Int.reduceBEq, Int.reduceBNe, ty24, ty26, ty36, ty22, ty3, ty4, ty9, ty41, un4, hd, cb, eqty24, eqty26, r1, r2]; (repeat (first | refine ⟨by omega, ?_⟩ | refine ⟨True.intro, ?_⟩)))))
      refine ⟨⟨(j + 1, rest ++ K), by simp only []; omega, by rw [so, ← he2], by simp; omega⟩, by simp only []; omega, ?_⟩
      refine Weak.list ?_ ?_; (all_goals simp (disch := omega) only [AllF, AllL, le_self, le_top, lle_self, exists_eq_left', Option.some.injEq, go_sem, ↓reduceIte, reduceCtorEq, Nat.reduceLT, Nat.reducePow, Nat.reduceLeDiff, Nat.reduceAdd, Nat.reduceMul, Nat.reduceSub, Nat.reduceEqDiff, Nat.reduceBEq, Int.reduceToNat, Int.reduceBEq, Int.reduceBNe, ty24, ty26, ty36, ty22, ty3, ty4, ty9, ty41, un4, hd, cb, eqty24, eqty26, r1, r2]); (all_goals (repeat' (with_reducible apply And.intro))); (all_goals try (first | exact le_eq rfl | (refine le_int ?_; omega) | (refine le_eq ?_; simp; done)))
      · exact le_grgr rfl (by simp) (fun k hk => rowT_cat rest K k)
      · exact lle_grow (by simp) rfl
    · have hjl : j = out.length := by omega
      subst hjl
      rw [List.take_length] at he2
      have hre : rest = lessRest out Y := he2
      have srest : ∀ k ∈ rest, k.sound = true := by rw [hre]; exact lessRest_sound hs
      have ln := LeanT_c rest srest (by omega)
      have lm : ∀ k ∈ leanP rest, k.sound = true := fun k hk => (leanP_mem hk).2
      unfold lessP at he
      rw [← hre] at he
      by_cases h0 : (leanP rest).length > 200
      · have e1 : leanE rest = 10 := if_pos h0
        rw [e1] at he
        simp only [show ((10 : Int) = 0) = False from by simp, if_false] at he
        subst he
        generalize leanP rest = V at ln lm h0
        (repeat (first | refine awp_seq ?_ | refine awp_yes rfl ?_ | refine awp_no rfl ?_ | refine awp_block ?_ | (refine awp_region fun K hK => ?_) | (refine awp_draw (by kernel_rfl) (by kernel_rfl) fun K hK => ?_) | (refine awp_skip ?_; (first | show AWP _ _ _ _ _ | show loopQ _ _ _ _ _ _)) | (refine awp_exit ?_; (first | show AWP _ _ _ _ _ | show loopQ _ _ _ _ _ _)) | ((first | refine walkS_end (hK _ ?_) | refine walkD_end (hK _ _ (okTrace_spec (by kernel_rfl)) ?_)); clear hK K; (first | show AWP _ _ _ _ _ | show loopQ _ _ _ _ _ _)) | ((first | refine walkS_call3 rfl rfl rfl ?_ | refine walkD_call3 rfl rfl rfl ?_); simp (maxSteps := 2000000) (disch := omega) only [go_sem, ↓reduceIte, reduceCtorEq, Nat.reduceLT, Nat.reducePow, Nat.reduceLeDiff, Nat.reduceAdd, Nat.reduceMul, Nat.reduceSub, Nat.reduceEqDiff, Nat.reduceBEq, Int.reduceToNat, Int.reduceBEq, Int.reduceBNe, ty24, ty26, ty36, ty22, ty3, ty4, ty9, ty41, un4, hd, cb, eqty24, eqty26, r1]; (first | refine ⟨_, ln, ?_⟩)) | ((first | refine walkS_run1 [15] rfl ?_ | refine walkD_run1 [15] rfl ?_); simp (maxSteps := 2000000) (disch := omega) only [go_sem, ↓reduceIte, reduceCtorEq, Nat.reduceLT, Nat.reducePow, Nat.reduceLeDiff, Nat.reduceAdd, Nat.reduceMul, Nat.reduceSub, Nat.reduceEqDiff, Nat.reduceBEq, Int.reduceToNat, Int.reduceBEq, Int.reduceBNe, ty24, ty26, ty36, ty22, ty3, ty4, ty9, ty41, un4, hd, cb, eqty24, eqty26, r1]; (repeat (first | refine ⟨by omega, ?_⟩ | refine ⟨True.intro, ?_⟩)))))
        refine awp_slot 4 _ (.p (.d (.sl 1 ([] : List Cube).length (rowT [])))) rfl (le_nil 1 _ _ rfl) ?_
        refine awp_ret ⟨_, ?_, rfl⟩; rw [Try.results52]; simp (disch := omega) only [ResVars, ResVar, ptrLoc, go_sem, ↓reduceIte, reduceCtorEq, Nat.reduceLT, Nat.reducePow, Nat.reduceLeDiff, Nat.reduceAdd, Nat.reduceMul, Nat.reduceSub, Nat.reduceEqDiff, Nat.reduceBEq, Int.reduceToNat, Int.reduceBEq, Int.reduceBNe, ty24, ty26, ty36, ty22, ty3, ty4, ty9, ty41, un4, hd, cb, eqty24, eqty26, r1]
      · have e1 : leanE rest = 0 := if_neg h0
        rw [if_pos e1, leanE_val rest e1] at he
        generalize leanP rest = V at ln lm h0 he
        (repeat (first | refine awp_seq ?_ | refine awp_yes rfl ?_ | refine awp_no rfl ?_ | refine awp_block ?_ | (refine awp_region fun K hK => ?_) | (refine awp_draw (by kernel_rfl) (by kernel_rfl) fun K hK => ?_) | (refine awp_skip ?_; (first | show AWP _ _ _ _ _ | show loopQ _ _ _ _ _ _)) | (refine awp_exit ?_; (first | show AWP _ _ _ _ _ | show loopQ _ _ _ _ _ _)) | ((first | refine walkS_end (hK _ ?_) | refine walkD_end (hK _ _ (okTrace_spec (by kernel_rfl)) ?_)); clear hK K; (first | show AWP _ _ _ _ _ | show loopQ _ _ _ _ _ _)) | ((first | refine walkS_call3 rfl rfl rfl ?_ | refine walkD_call3 rfl rfl rfl ?_); simp (maxSteps := 2000000) (disch := omega) only [go_sem, ↓reduceIte, reduceCtorEq, Nat.reduceLT, Nat.reducePow, Nat.reduceLeDiff, Nat.reduceAdd, Nat.reduceMul, Nat.reduceSub, Nat.reduceEqDiff, Nat.reduceBEq, Int.reduceToNat, Int.reduceBEq, Int.reduceBNe, ty24, ty26, ty36, ty22, ty3, ty4, ty9, ty41, un4, hd, cb, eqty24, eqty26, r1]; (first | refine ⟨_, ln, ?_⟩)) | ((first | refine walkS_run1 [15] rfl ?_ | refine walkD_run1 [15] rfl ?_); simp (maxSteps := 2000000) (disch := omega) only [go_sem, ↓reduceIte, reduceCtorEq, Nat.reduceLT, Nat.reducePow, Nat.reduceLeDiff, Nat.reduceAdd, Nat.reduceMul, Nat.reduceSub, Nat.reduceEqDiff, Nat.reduceBEq, Int.reduceToNat, Int.reduceBEq, Int.reduceBNe, ty24, ty26, ty36, ty22, ty3, ty4, ty9, ty41, un4, hd, cb, eqty24, eqty26, r1]; (repeat (first | refine ⟨by omega, ?_⟩ | refine ⟨True.intro, ?_⟩)))))
        refine ⟨⟨(i + 1, V), by simp only []; omega, he, by simp only []; omega, lm⟩, by simp only []; omega, ?_⟩
        refine Weak.list ?_ ?_; (all_goals simp (disch := omega) only [AllF, AllL, le_self, le_top, lle_self, exists_eq_left', Option.some.injEq, go_sem, ↓reduceIte, reduceCtorEq, Nat.reduceLT, Nat.reducePow, Nat.reduceLeDiff, Nat.reduceAdd, Nat.reduceMul, Nat.reduceSub, Nat.reduceEqDiff, Nat.reduceBEq, Int.reduceToNat, Int.reduceBEq, Int.reduceBNe, ty24, ty26, ty36, ty22, ty3, ty4, ty9, ty41, un4, hd, cb, eqty24, eqty26, r1]); (all_goals (repeat' (with_reducible apply And.intro))); (all_goals try (first | exact le_eq rfl | (refine le_int ?_; omega) | (refine le_eq ?_; simp; done)))
  · have hil : i = b.length := by omega
    subst hil
    rw [List.drop_length] at he
    unfold lessP at he
    subst he
    (repeat (first | refine awp_seq ?_ | refine awp_yes rfl ?_ | refine awp_no rfl ?_ | refine awp_block ?_ | (refine awp_region fun K hK => ?_) | (refine awp_draw (by kernel_rfl) (by kernel_rfl) fun K hK => ?_) | (refine awp_skip ?_; (first | show AWP _ _ _ _ _ | show loopQ _ _ _ _ _ _)) | (refine awp_exit ?_; (first | show AWP _ _ _ _ _ | show loopQ _ _ _ _ _ _)) | ((first | refine walkS_end (hK _ ?_) | refine walkD_end (hK _ _ (okTrace_spec (by kernel_rfl)) ?_)); clear hK K; (first | show AWP _ _ _ _ _ | show loopQ _ _ _ _ _ _)) | ((first | refine walkS_run1 [15] rfl ?_ | refine walkD_run1 [15] rfl ?_); simp (maxSteps := 2000000) (disch := omega) only [go_sem, ↓reduceIte, reduceCtorEq, Nat.reduceLT, Nat.reducePow, Nat.reduceLeDiff, Nat.reduceAdd, Nat.reduceMul, Nat.reduceSub, Nat.reduceEqDiff, Nat.reduceBEq, Int.reduceToNat, Int.reduceBEq, Int.reduceBNe, ty24, ty26, ty36, ty22, ty3, ty4, ty9, ty41, un4, hd, cb, eqty24, eqty26]; (repeat (first | refine ⟨by omega, ?_⟩ | refine ⟨True.intro, ?_⟩)))))
    refine awp_ret ⟨_, ?_, rfl⟩; rw [Try.results52]; simp (disch := omega) only [ResVars, ResVar, ptrLoc, go_sem, ↓reduceIte, reduceCtorEq, Nat.reduceLT, Nat.reducePow, Nat.reduceLeDiff, Nat.reduceAdd, Nat.reduceMul, Nat.reduceSub, Nat.reduceEqDiff, Nat.reduceBEq, Int.reduceToNat, Int.reduceBEq, Int.reduceBNe, ty24, ty26, ty36, ty22, ty3, ty4, ty9, ty41, un4, hd, cb, eqty24, eqty26]
end Go.Proofs.Ytfcfhlfehomhpaa
