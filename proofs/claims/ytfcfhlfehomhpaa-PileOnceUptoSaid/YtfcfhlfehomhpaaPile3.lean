/- Package pile: Meet, Less, Within. Conditions: none, but that no row is greater than memory bears. -/
import Derived.Test.YtfcfhlfehomhpaaPile2
set_option linter.unusedSimpArgs false
set_option linter.unusedVariables false
namespace Go.Proofs.Ytfcfhlfehomhpaa
open Go.Proofs.Ytfcfhlfehomhpaa.AL
theorem take_succ_getD {α : Type} (l : List α) (i : Nat) (z : α) (h : i < l.length) : l.take (i + 1) = l.take i ++ [l.getD i z] := by
  rw [List.take_succ_eq_append_getElem h, List.getD_eq_getElem?_getD, List.getElem?_eq_getElem h]; rfl
def cbA (k : Cube) : List AV := [.p (.d (.v (.int .u64 (hi k.v)))), .p (.d (.v (.int .u64 (lo k.v)))), .p (.d (.v (.int .u64 (hi k.c)))), .p (.d (.v (.int .u64 (lo k.c))))]
def meetOne (x y : Cube) : Option Cube := if meetO x y then some (meetV x y) else none
def meetRow (b : List Cube) (x : Cube) : List Cube := b.filterMap (meetOne x)
def meetsP (a b : List Cube) : List Cube := a.flatMap (meetRow b)
def meetPI (a b : List Cube) (s : {s : Nat × List Cube // s.1 ≤ a.length ∧ s.2 = (a.take s.1).flatMap (meetRow b) ∧ s.2.length ≤ s.1 * b.length}) : ASt :=
  ⟨[(22, .p (.d (.v (.int .i64 (s.val.1 : Int))))), (21, .p (.d (.v (.int .i64 (a.length : Int))))), (20, .p (.d (.sl 4 a.length (rowC a)))), (7, .gr 7 s.val.2.length 4 s.val.2.length (rowC s.val.2)), (1, .p (.d (.sl 4 b.length (rowC b))))],
   [(7, .grow 26 4 s.val.2.length s.val.2.length)]⟩
def meetPJ (a b : List Cube) (x : Cube) (i : Nat) (pre : List Cube) (s : {s : Nat × List Cube // s.1 ≤ b.length ∧ s.2 = pre ++ (b.take s.1).filterMap (meetOne x) ∧ s.2.length ≤ pre.length + s.1}) : ASt :=
  ⟨[(28, .p (.d (.v (.int .i64 (s.val.1 : Int))))), (27, .p (.d (.v (.int .i64 (b.length : Int))))), (26, .p (.d (.sl 4 b.length (rowC b)))), (9, .loc 9 0), (22, .p (.d (.v (.int .i64 (i : Int))))), (21, .p (.d (.v (.int .i64 (a.length : Int))))), (20, .p (.d (.sl 4 a.length (rowC a)))),
    (7, .gr 7 s.val.2.length 4 s.val.2.length (rowC s.val.2)), (1, .p (.d (.sl 4 b.length (rowC b))))],
   [(9, .cells 26 (cbA x)), (7, .grow 26 4 s.val.2.length s.val.2.length)]⟩
theorem soundP_len {a : List Cube} (h : soundP a = true) : a.length ≤ 200 := by
  unfold soundP at h
  rw [Bool.and_eq_true] at h
  exact of_decide_eq_true h.1
set_option maxRecDepth 100000 in
set_option maxHeartbeats 2000000 in
theorem MeetP_c (a b : List Cube) (ha : a.length ≤ 1099511627776) (hb : b.length ≤ 1099511627776) : ACalls Try.prog 50 [.d (.sl 4 a.length (rowC a)), .d (.sl 4 b.length (rowC b))]
    (· = [.d (.sl 4 (if soundP a && soundP b then leanV (meetsP a b) else []).length (rowC (if soundP a && soundP b then leanV (meetsP a b) else []))), .d (.v (.int .i64 (if soundP a && soundP b then leanE (meetsP a b) else 2)))]) := by
  have pr := pair_c a b ha hb
  unfold pairE at pr
  cases hs : (soundP a && soundP b)
  · rw [hs] at pr
    simp only [Bool.false_eq_true, if_false] at pr ⊢
    refine acalls_of_awp Try.func50 rfl (by decide +kernel) (by rw [Try.ntmps50]; simp) ?_; rw [Try.ntmps50]; simp only [frOf]
    (repeat (first | refine awp_seq ?_ | refine awp_yes rfl ?_ | refine awp_no rfl ?_ | refine awp_block ?_ | (refine awp_region fun K hK => ?_) | (refine awp_draw (by kernel_rfl) (by kernel_rfl) fun K hK => ?_) | (refine awp_skip ?_; (first | show AWP _ _ _ _ _ | show loopQ _ _ _ _ _ _)) | (refine awp_exit ?_; (first | show AWP _ _ _ _ _ | show loopQ _ _ _ _ _ _)) | ((first | refine walkS_end (hK _ ?_) | refine walkD_end (hK _ _ (okTrace_spec (by kernel_rfl)) ?_)); clear hK K; (first | show AWP _ _ _ _ _ | show loopQ _ _ _ _ _ _)) | ((first | refine walkS_call3 rfl rfl rfl ?_ | refine walkD_call3 rfl rfl rfl ?_); simp (maxSteps := 2000000) (disch := omega) only [go_sem, ↓reduceIte, reduceCtorEq, Nat.reduceLT, Nat.reducePow, Nat.reduceLeDiff, Nat.reduceAdd, Nat.reduceMul, Nat.reduceSub, Nat.reduceEqDiff, Nat.reduceBEq, Int.reduceToNat, Int.reduceBEq, Int.reduceBNe, ty24, ty26, ty36, ty22, ty3, ty4, ty48, hd, cb, eqty24, eqty26]; (first | refine ⟨_, pr, ?_⟩)) | ((first | refine walkS_run1 [] rfl ?_ | refine walkD_run1 [] rfl ?_); simp (maxSteps := 2000000) (disch := omega) only [go_sem, ↓reduceIte, reduceCtorEq, Nat.reduceLT, Nat.reducePow, Nat.reduceLeDiff, Nat.reduceAdd, Nat.reduceMul, Nat.reduceSub, Nat.reduceEqDiff, Nat.reduceBEq, Int.reduceToNat, Int.reduceBEq, Int.reduceBNe, ty24, ty26, ty36, ty22, ty3, ty4, ty48, hd, cb, eqty24, eqty26]; (repeat (first | refine ⟨by omega, ?_⟩ | refine ⟨True.intro, ?_⟩)))))
    refine awp_slot 4 _ (.p (.d (.sl 4 ([] : List Cube).length (rowC [])))) rfl (le_nil 4 _ _ rfl) ?_
    refine awp_ret ⟨_, ?_, rfl⟩; rw [Try.results50]; simp (disch := omega) only [ResVars, ResVar, ptrLoc, go_sem, ↓reduceIte, reduceCtorEq, Nat.reduceLT, Nat.reducePow, Nat.reduceLeDiff, Nat.reduceAdd, Nat.reduceMul, Nat.reduceSub, Nat.reduceEqDiff, Nat.reduceBEq, Int.reduceToNat, Int.reduceBEq, Int.reduceBNe, ty24, ty26, ty36, ty22, ty3, ty4, ty48, hd, cb, eqty24, eqty26]
  · rw [hs] at pr
    simp only [if_true] at pr ⊢
    rw [Bool.and_eq_true] at hs
    have h1 := soundP_len hs.1
    have h2 := soundP_len hs.2
    refine acalls_of_awp Try.func50 rfl (by decide +kernel) (by rw [Try.ntmps50]; simp) ?_; rw [Try.ntmps50]; simp only [frOf]
    (repeat (first | refine awp_seq ?_ | refine awp_yes rfl ?_ | refine awp_no rfl ?_ | refine awp_block ?_ | (refine awp_region fun K hK => ?_) | (refine awp_draw (by kernel_rfl) (by kernel_rfl) fun K hK => ?_) | (refine awp_skip ?_; (first | show AWP _ _ _ _ _ | show loopQ _ _ _ _ _ _)) | (refine awp_exit ?_; (first | show AWP _ _ _ _ _ | show loopQ _ _ _ _ _ _)) | ((first | refine walkS_end (hK _ ?_) | refine walkD_end (hK _ _ (okTrace_spec (by kernel_rfl)) ?_)); clear hK K; (first | show AWP _ _ _ _ _ | show loopQ _ _ _ _ _ _)) | ((first | refine walkS_call3 rfl rfl rfl ?_ | refine walkD_call3 rfl rfl rfl ?_); simp (maxSteps := 2000000) (disch := omega) only [go_sem, ↓reduceIte, reduceCtorEq, Nat.reduceLT, Nat.reducePow, Nat.reduceLeDiff, Nat.reduceAdd, Nat.reduceMul, Nat.reduceSub, Nat.reduceEqDiff, Nat.reduceBEq, Int.reduceToNat, Int.reduceBEq, Int.reduceBNe, ty24, ty26, ty36, ty22, ty3, ty4, ty48, hd, cb, eqty24, eqty26]; (first | refine ⟨_, pr, ?_⟩)) | ((first | refine walkS_run1 [] rfl ?_ | refine walkD_run1 [] rfl ?_); simp (maxSteps := 2000000) (disch := omega) only [go_sem, ↓reduceIte, reduceCtorEq, Nat.reduceLT, Nat.reducePow, Nat.reduceLeDiff, Nat.reduceAdd, Nat.reduceMul, Nat.reduceSub, Nat.reduceEqDiff, Nat.reduceBEq, Int.reduceToNat, Int.reduceBEq, Int.reduceBNe, ty24, ty26, ty36, ty22, ty3, ty4, ty48, hd, cb, eqty24, eqty26]; (repeat (first | refine ⟨by omega, ?_⟩ | refine ⟨True.intro, ?_⟩)))))
    refine awp_grow 7 7 4 26 (rowC []) rfl (by kernel_rfl) rfl ?_
    refine awp_loop (meetPI a b) (fun s => a.length - s.val.1) ⟨(0, []), by simp, by simp, by simp⟩ ?_ (fun s => ?_)
    · unfold meetPI
      refine Weak.list ?_ ?_; (all_goals simp (disch := omega) only [AllF, AllL, le_self, le_top, lle_self, exists_eq_left', Option.some.injEq, go_sem, ↓reduceIte, reduceCtorEq, Nat.reduceLT, Nat.reducePow, Nat.reduceLeDiff, Nat.reduceAdd, Nat.reduceMul, Nat.reduceSub, Nat.reduceEqDiff, Nat.reduceBEq, Int.reduceToNat, Int.reduceBEq, Int.reduceBNe, ty24, ty26, ty36, ty22, ty3, ty4, ty48, hd, cb, eqty24, eqty26]); (all_goals (repeat' (with_reducible apply And.intro))); (all_goals try (first | exact le_eq rfl | (refine le_int ?_; omega) | (refine le_eq ?_; simp; done)))
    obtain ⟨⟨i, out⟩, hi, he, ho⟩ := s
    unfold meetPI
    simp only [] at hi he ho
    have hio : i * b.length ≤ 200 * 200 := Nat.mul_le_mul (by omega) h2
    by_cases hn : i < a.length
    · have r1 := rowC_at a i
      have st := take_succ_getD a i ⟨0, 0⟩ hn
      generalize a.getD i ⟨0, 0⟩ = X at r1 st
      (repeat (first | refine awp_seq ?_ | refine awp_yes rfl ?_ | refine awp_no rfl ?_ | refine awp_block ?_ | (refine awp_region fun K hK => ?_) | (refine awp_draw (by kernel_rfl) (by kernel_rfl) fun K hK => ?_) | (refine awp_skip ?_; (first | show AWP _ _ _ _ _ | show loopQ _ _ _ _ _ _)) | (refine awp_exit ?_; (first | show AWP _ _ _ _ _ | show loopQ _ _ _ _ _ _)) | ((first | refine walkS_end (hK _ ?_) | refine walkD_end (hK _ _ (okTrace_spec (by kernel_rfl)) ?_)); clear hK K; (first | show AWP _ _ _ _ _ | show loopQ _ _ _ _ _ _)) | ((first | refine walkS_run1 [] rfl ?_ | refine walkD_run1 [] rfl ?_); simp (maxSteps := 2000000) (disch := omega) only [go_sem, ↓reduceIte, reduceCtorEq, Nat.reduceLT, Nat.reducePow, Nat.reduceLeDiff, Nat.reduceAdd, Nat.reduceMul, Nat.reduceSub, Nat.reduceEqDiff, Nat.reduceBEq, Int.reduceToNat, Int.reduceBEq, Int.reduceBNe, ty24, ty26, ty36, ty22, ty3, ty4, ty48, hd, cb, eqty24, eqty26, r1]; (repeat (first | refine ⟨by omega, ?_⟩ | refine ⟨True.intro, ?_⟩)))))
      refine awp_loop (meetPJ a b X i out) (fun s => b.length - s.val.1) ⟨(0, out), by simp, by simp, by simp⟩ ?_ (fun s => ?_)
      · unfold meetPJ cbA
        refine Weak.list ?_ ?_; (all_goals simp (disch := omega) only [AllF, AllL, le_self, le_top, lle_self, exists_eq_left', Option.some.injEq, go_sem, ↓reduceIte, reduceCtorEq, Nat.reduceLT, Nat.reducePow, Nat.reduceLeDiff, Nat.reduceAdd, Nat.reduceMul, Nat.reduceSub, Nat.reduceEqDiff, Nat.reduceBEq, Int.reduceToNat, Int.reduceBEq, Int.reduceBNe, ty24, ty26, ty36, ty22, ty3, ty4, ty48, hd, cb, eqty24, eqty26, r1]); (all_goals (repeat' (with_reducible apply And.intro))); (all_goals try (first | exact le_eq rfl | (refine le_int ?_; omega) | (refine le_eq ?_; simp; done)))
      obtain ⟨⟨j, ou2⟩, hj, he2, ho2⟩ := s
      unfold meetPJ cbA
      simp only [] at hj he2 ho2
      by_cases hm : j < b.length
      · have r2 := rowC_at b j
        have st2 := take_succ_getD b j ⟨0, 0⟩ hm
        generalize b.getD j ⟨0, 0⟩ = Y at r2 st2
        have mt := Meet_c X Y
        have so : (b.take (j + 1)).filterMap (meetOne X) = (b.take j).filterMap (meetOne X) ++ (if meetO X Y then [meetV X Y] else []) := by
          rw [st2, List.filterMap_append]
          congr 1
          cases h : meetO X Y <;> simp [meetOne, h]
        generalize meetV X Y = V at mt so
        cases h : meetO X Y
        all_goals
          rw [h] at mt so
          simp only [Bool.false_eq_true, if_false, if_true] at so
          (repeat (first | refine awp_seq ?_ | refine awp_yes rfl ?_ | refine awp_no rfl ?_ | refine awp_block ?_ | (refine awp_region fun K hK => ?_) | (refine awp_draw (by kernel_rfl) (by kernel_rfl) fun K hK => ?_) | (refine awp_skip ?_; (first | show AWP _ _ _ _ _ | show loopQ _ _ _ _ _ _)) | (refine awp_exit ?_; (first | show AWP _ _ _ _ _ | show loopQ _ _ _ _ _ _)) | ((first | refine walkS_end (hK _ ?_) | refine walkD_end (hK _ _ (okTrace_spec (by kernel_rfl)) ?_)); clear hK K; (first | show AWP _ _ _ _ _ | show loopQ _ _ _ _ _ _)) | ((first | refine walkS_call3 rfl rfl rfl ?_ | refine walkD_call3 rfl rfl rfl ?_); simp (maxSteps := 2000000) (disch := omega) only [go_sem, ↓reduceIte, reduceCtorEq, Nat.reduceLT, Nat.reducePow, Nat.reduceLeDiff, Nat.reduceAdd, Nat.reduceMul, Nat.reduceSub, Nat.reduceEqDiff, Nat.reduceBEq, Int.reduceToNat, Int.reduceBEq, Int.reduceBNe, ty24, ty26, ty36, ty22, ty3, ty4, ty48, hd, cb, eqty24, eqty26, r1, r2]; (first | refine ⟨_, mt, ?_⟩)) | ((first | refine walkS_run1 [] rfl ?_ | refine walkD_run1 [] rfl ?_); simp (maxSteps := 2000000) (disch := omega) only [go_sem, ↓reduceIte, reduceCtorEq, Nat.reduceLT, Nat.reducePow, Nat.reduceLeDiff, Nat.reduceAdd, Nat.reduceMul, Nat.reduceSub, Nat.reduceEqDiff, Nat.reduceBEq, Int.reduceToNat, Int.reduceBEq, Int.reduceBNe, ty24, ty26, ty36, ty22, ty3, ty4, ty48, hd, cb, eqty24, eqty26, r1, r2]; (repeat (first | refine ⟨by omega, ?_⟩ | refine ⟨True.intro, ?_⟩)))))
        · refine ⟨⟨(j + 1, ou2), by simp only []; omega, by rw [so, List.append_nil]; exact he2, by simp only []; omega⟩, by simp only []; omega, ?_⟩
          refine Weak.list ?_ ?_; (all_goals simp (disch := omega) only [AllF, AllL, le_self, le_top, lle_self, exists_eq_left', Option.some.injEq, go_sem, ↓reduceIte, reduceCtorEq, Nat.reduceLT, Nat.reducePow, Nat.reduceLeDiff, Nat.reduceAdd, Nat.reduceMul, Nat.reduceSub, Nat.reduceEqDiff, Nat.reduceBEq, Int.reduceToNat, Int.reduceBEq, Int.reduceBNe, ty24, ty26, ty36, ty22, ty3, ty4, ty48, hd, cb, eqty24, eqty26, r1, r2]); (all_goals (repeat' (with_reducible apply And.intro))); (all_goals try (first | exact le_eq rfl | (refine le_int ?_; omega) | (refine le_eq ?_; simp; done)))
        · refine ⟨⟨(j + 1, ou2 ++ [V]), by simp only []; omega, by rw [so, ← List.append_assoc, ← he2], by simp; omega⟩, by simp only []; omega, ?_⟩
          refine Weak.list ?_ ?_; (all_goals simp (disch := omega) only [AllF, AllL, le_self, le_top, lle_self, exists_eq_left', Option.some.injEq, go_sem, ↓reduceIte, reduceCtorEq, Nat.reduceLT, Nat.reducePow, Nat.reduceLeDiff, Nat.reduceAdd, Nat.reduceMul, Nat.reduceSub, Nat.reduceEqDiff, Nat.reduceBEq, Int.reduceToNat, Int.reduceBEq, Int.reduceBNe, ty24, ty26, ty36, ty22, ty3, ty4, ty48, hd, cb, eqty24, eqty26, r1, r2]); (all_goals (repeat' (with_reducible apply And.intro))); (all_goals try (first | exact le_eq rfl | (refine le_int ?_; omega) | (refine le_eq ?_; simp; done)))
          · exact le_grgr (by simp) (by simp) (fun j hj => rowC_put ou2 V j hj)
          · exact lle_grow (by simp) (by simp)
      · have hjl : j = b.length := by omega
        subst hjl
        (repeat (first | refine awp_seq ?_ | refine awp_yes rfl ?_ | refine awp_no rfl ?_ | refine awp_block ?_ | (refine awp_region fun K hK => ?_) | (refine awp_draw (by kernel_rfl) (by kernel_rfl) fun K hK => ?_) | (refine awp_skip ?_; (first | show AWP _ _ _ _ _ | show loopQ _ _ _ _ _ _)) | (refine awp_exit ?_; (first | show AWP _ _ _ _ _ | show loopQ _ _ _ _ _ _)) | ((first | refine walkS_end (hK _ ?_) | refine walkD_end (hK _ _ (okTrace_spec (by kernel_rfl)) ?_)); clear hK K; (first | show AWP _ _ _ _ _ | show loopQ _ _ _ _ _ _)) | ((first | refine walkS_run1 [] rfl ?_ | refine walkD_run1 [] rfl ?_); simp (maxSteps := 2000000) (disch := omega) only [go_sem, ↓reduceIte, reduceCtorEq, Nat.reduceLT, Nat.reducePow, Nat.reduceLeDiff, Nat.reduceAdd, Nat.reduceMul, Nat.reduceSub, Nat.reduceEqDiff, Nat.reduceBEq, Int.reduceToNat, Int.reduceBEq, Int.reduceBNe, ty24, ty26, ty36, ty22, ty3, ty4, ty48, hd, cb, eqty24, eqty26, r1]; (repeat (first | refine ⟨by omega, ?_⟩ | refine ⟨True.intro, ?_⟩)))))
        refine ⟨⟨(i + 1, ou2), by simp only []; omega, ?_, ?_⟩, by simp only []; omega, ?_⟩
        · rw [st, List.flatMap_append, ← he, he2, List.take_length]
          simp [meetRow]
        · simp only []
          rw [Nat.add_mul, Nat.one_mul]; omega
        refine Weak.list ?_ ?_; (all_goals simp (disch := omega) only [AllF, AllL, le_self, le_top, lle_self, exists_eq_left', Option.some.injEq, go_sem, ↓reduceIte, reduceCtorEq, Nat.reduceLT, Nat.reducePow, Nat.reduceLeDiff, Nat.reduceAdd, Nat.reduceMul, Nat.reduceSub, Nat.reduceEqDiff, Nat.reduceBEq, Int.reduceToNat, Int.reduceBEq, Int.reduceBNe, ty24, ty26, ty36, ty22, ty3, ty4, ty48, hd, cb, eqty24, eqty26, r1]); (all_goals (repeat' (with_reducible apply And.intro))); (all_goals try (first | exact le_eq rfl | (refine le_int ?_; omega) | (refine le_eq ?_; simp; done)))
    · have hil : i = a.length := by omega
      subst hil
      rw [List.take_length] at he
      have ln := lean_c out (by omega)
      have : out = meetsP a b := he
      rw [← this]
      (repeat (first | refine awp_seq ?_ | refine awp_yes rfl ?_ | refine awp_no rfl ?_ | refine awp_block ?_ | (refine awp_region fun K hK => ?_) | (refine awp_draw (by kernel_rfl) (by kernel_rfl) fun K hK => ?_) | (refine awp_skip ?_; (first | show AWP _ _ _ _ _ | show loopQ _ _ _ _ _ _)) | (refine awp_exit ?_; (first | show AWP _ _ _ _ _ | show loopQ _ _ _ _ _ _)) | ((first | refine walkS_end (hK _ ?_) | refine walkD_end (hK _ _ (okTrace_spec (by kernel_rfl)) ?_)); clear hK K; (first | show AWP _ _ _ _ _ | show loopQ _ _ _ _ _ _)) | ((first | refine walkS_call3 rfl rfl rfl ?_ | refine walkD_call3 rfl rfl rfl ?_); simp (maxSteps := 2000000) (disch := omega) only [go_sem, ↓reduceIte, reduceCtorEq, Nat.reduceLT, Nat.reducePow, Nat.reduceLeDiff, Nat.reduceAdd, Nat.reduceMul, Nat.reduceSub, Nat.reduceEqDiff, Nat.reduceBEq, Int.reduceToNat, Int.reduceBEq, Int.reduceBNe, ty24, ty26, ty36, ty22, ty3, ty4, ty48, hd, cb, eqty24, eqty26]; (first | refine ⟨_, ln, ?_⟩)) | ((first | refine walkS_run1 [] rfl ?_ | refine walkD_run1 [] rfl ?_); simp (maxSteps := 2000000) (disch := omega) only [go_sem, ↓reduceIte, reduceCtorEq, Nat.reduceLT, Nat.reducePow, Nat.reduceLeDiff, Nat.reduceAdd, Nat.reduceMul, Nat.reduceSub, Nat.reduceEqDiff, Nat.reduceBEq, Int.reduceToNat, Int.reduceBEq, Int.reduceBNe, ty24, ty26, ty36, ty22, ty3, ty4, ty48, hd, cb, eqty24, eqty26]; (repeat (first | refine ⟨by omega, ?_⟩ | refine ⟨True.intro, ?_⟩)))))
      refine awp_ret ⟨_, ?_, rfl⟩; rw [Try.results50]; simp (disch := omega) only [ResVars, ResVar, ptrLoc, go_sem, ↓reduceIte, reduceCtorEq, Nat.reduceLT, Nat.reducePow, Nat.reduceLeDiff, Nat.reduceAdd, Nat.reduceMul, Nat.reduceSub, Nat.reduceEqDiff, Nat.reduceBEq, Int.reduceToNat, Int.reduceBEq, Int.reduceBNe, ty24, ty26, ty36, ty22, ty3, ty4, ty48, hd, cb, eqty24, eqty26]

def lessRest (out : List Cube) (y : Cube) : List Cube := out.flatMap fun x => lessL x y
def lessP : List Cube → List Cube → List Cube × Int
  | [], out => (out, 0)
  | y :: r, out => if leanE (lessRest out y) = 0 then lessP r (leanV (lessRest out y)) else ([], leanE (lessRest out y))
theorem leanV_len (l : List Cube) : (leanV l).length ≤ 200 := by
  unfold leanV
  split
  · simp
  · omega
def lessPI (b : List Cube) (R : List Cube × Int) (s : {s : Nat × List Cube // s.1 ≤ b.length ∧ lessP (b.drop s.1) s.2 = R ∧ s.2.length ≤ 200}) : ASt :=
  ⟨[(24, .p (.d (.v (.int .i64 (s.val.1 : Int))))), (23, .p (.d (.v (.int .i64 (b.length : Int))))), (22, .p (.d (.sl 4 b.length (rowC b)))), (7, .p (.d (.sl 4 s.val.2.length (rowC s.val.2))))], []⟩
def lessPJ (b out : List Cube) (y : Cube) (i : Nat) (s : {s : Nat × List Cube // s.1 ≤ out.length ∧ s.2 = (out.take s.1).flatMap (fun x => lessL x y) ∧ s.2.length ≤ s.1 * 128}) : ASt :=
  ⟨[(30, .p (.d (.v (.int .i64 (s.val.1 : Int))))), (29, .p (.d (.v (.int .i64 (out.length : Int))))), (28, .p (.d (.sl 4 out.length (rowC out)))), (9, .loc 9 0), (10, .gr 10 s.val.1 4 s.val.2.length (rowC s.val.2)),
    (24, .p (.d (.v (.int .i64 (i : Int))))), (23, .p (.d (.v (.int .i64 (b.length : Int))))), (22, .p (.d (.sl 4 b.length (rowC b))))],
   [(9, .cells 26 (cbA y)), (10, .grow 26 4 s.val.2.length s.val.1)]⟩
theorem lessL_len' (a b : Cube) : (lessL a b).length ≤ 128 := by
  have go : ∀ (more : BitVec 128) (n : Nat) (r : Cube), (lessGo b more n r).length ≤ n := by
    intro more n
    induction n with
    | zero => intro r; simp [lessGo]
    | succ n ih =>
      intro r
      unfold lessGo
      split
      · have := ih ⟨r.v ||| b.v &&& ones 1 <<< n, r.c ||| ones 1 <<< n⟩; simp; omega
      · have := ih r; omega
  unfold lessL
  split
  · split
    · exact go _ _ _
    · simp
  · simp
set_option maxRecDepth 100000 in
set_option maxHeartbeats 2000000 in
theorem LessP_c' (a b : List Cube) (ha : a.length ≤ 1099511627776) (hb : b.length ≤ 1099511627776) (R : List Cube × Int) (hR : (if soundP a && soundP b then lessP b a else ([], 2)) = R) : ACalls Try.prog 47 [.d (.sl 4 a.length (rowC a)), .d (.sl 4 b.length (rowC b))]
    (· = [.d (.sl 4 R.1.length (rowC R.1)), .d (.v (.int .i64 R.2))]) := by
  have pr := pair_c a b ha hb
  unfold pairE at pr
  cases hs : (soundP a && soundP b)
  · rw [hs] at pr hR
    simp only [Bool.false_eq_true, if_false] at pr hR
    subst hR
    refine acalls_of_awp Try.func47 rfl (by decide +kernel) (by rw [Try.ntmps47]; simp) ?_; rw [Try.ntmps47]; simp only [frOf]
    (repeat (first | refine awp_seq ?_ | refine awp_yes rfl ?_ | refine awp_no rfl ?_ | refine awp_block ?_ | (refine awp_region fun K hK => ?_) | (refine awp_draw (by kernel_rfl) (by kernel_rfl) fun K hK => ?_) | (refine awp_skip ?_; (first | show AWP _ _ _ _ _ | show loopQ _ _ _ _ _ _)) | (refine awp_exit ?_; (first | show AWP _ _ _ _ _ | show loopQ _ _ _ _ _ _)) | ((first | refine walkS_end (hK _ ?_) | refine walkD_end (hK _ _ (okTrace_spec (by kernel_rfl)) ?_)); clear hK K; (first | show AWP _ _ _ _ _ | show loopQ _ _ _ _ _ _)) | ((first | refine walkS_call3 rfl rfl rfl ?_ | refine walkD_call3 rfl rfl rfl ?_); simp (maxSteps := 2000000) (disch := omega) only [go_sem, ↓reduceIte, reduceCtorEq, Nat.reduceLT, Nat.reducePow, Nat.reduceLeDiff, Nat.reduceAdd, Nat.reduceMul, Nat.reduceSub, Nat.reduceEqDiff, Nat.reduceBEq, Int.reduceToNat, Int.reduceBEq, Int.reduceBNe, ty24, ty26, ty36, ty22, ty3, ty4, ty48, hd, cb, eqty24, eqty26]; (first | refine ⟨_, pr, ?_⟩)) | ((first | refine walkS_run1 [] rfl ?_ | refine walkD_run1 [] rfl ?_); simp (maxSteps := 2000000) (disch := omega) only [go_sem, ↓reduceIte, reduceCtorEq, Nat.reduceLT, Nat.reducePow, Nat.reduceLeDiff, Nat.reduceAdd, Nat.reduceMul, Nat.reduceSub, Nat.reduceEqDiff, Nat.reduceBEq, Int.reduceToNat, Int.reduceBEq, Int.reduceBNe, ty24, ty26, ty36, ty22, ty3, ty4, ty48, hd, cb, eqty24, eqty26]; (repeat (first | refine ⟨by omega, ?_⟩ | refine ⟨True.intro, ?_⟩)))))
    refine awp_slot 4 _ (.p (.d (.sl 4 ([] : List Cube).length (rowC [])))) rfl (le_nil 4 _ _ rfl) ?_
    refine awp_ret ⟨_, ?_, rfl⟩; rw [Try.results47]; simp (disch := omega) only [ResVars, ResVar, ptrLoc, go_sem, ↓reduceIte, reduceCtorEq, Nat.reduceLT, Nat.reducePow, Nat.reduceLeDiff, Nat.reduceAdd, Nat.reduceMul, Nat.reduceSub, Nat.reduceEqDiff, Nat.reduceBEq, Int.reduceToNat, Int.reduceBEq, Int.reduceBNe, ty24, ty26, ty36, ty22, ty3, ty4, ty48, hd, cb, eqty24, eqty26]
  · rw [hs] at pr hR
    simp only [if_true] at pr hR
    rw [Bool.and_eq_true] at hs
    have h1 := soundP_len hs.1
    have h2 := soundP_len hs.2
    have cl := Clone_c a ha
    refine acalls_of_awp Try.func47 rfl (by decide +kernel) (by rw [Try.ntmps47]; simp) ?_; rw [Try.ntmps47]; simp only [frOf]
    (repeat (first | refine awp_seq ?_ | refine awp_yes rfl ?_ | refine awp_no rfl ?_ | refine awp_block ?_ | (refine awp_region fun K hK => ?_) | (refine awp_draw (by kernel_rfl) (by kernel_rfl) fun K hK => ?_) | (refine awp_skip ?_; (first | show AWP _ _ _ _ _ | show loopQ _ _ _ _ _ _)) | (refine awp_exit ?_; (first | show AWP _ _ _ _ _ | show loopQ _ _ _ _ _ _)) | ((first | refine walkS_end (hK _ ?_) | refine walkD_end (hK _ _ (okTrace_spec (by kernel_rfl)) ?_)); clear hK K; (first | show AWP _ _ _ _ _ | show loopQ _ _ _ _ _ _)) | ((first | refine walkS_call3 rfl rfl rfl ?_ | refine walkD_call3 rfl rfl rfl ?_); simp (maxSteps := 2000000) (disch := omega) only [go_sem, ↓reduceIte, reduceCtorEq, Nat.reduceLT, Nat.reducePow, Nat.reduceLeDiff, Nat.reduceAdd, Nat.reduceMul, Nat.reduceSub, Nat.reduceEqDiff, Nat.reduceBEq, Int.reduceToNat, Int.reduceBEq, Int.reduceBNe, ty24, ty26, ty36, ty22, ty3, ty4, ty48, hd, cb, eqty24, eqty26]; (first | refine ⟨_, pr, ?_⟩ | refine ⟨_, cl, ?_⟩)) | ((first | refine walkS_run1 [] rfl ?_ | refine walkD_run1 [] rfl ?_); simp (maxSteps := 2000000) (disch := omega) only [go_sem, ↓reduceIte, reduceCtorEq, Nat.reduceLT, Nat.reducePow, Nat.reduceLeDiff, Nat.reduceAdd, Nat.reduceMul, Nat.reduceSub, Nat.reduceEqDiff, Nat.reduceBEq, Int.reduceToNat, Int.reduceBEq, Int.reduceBNe, ty24, ty26, ty36, ty22, ty3, ty4, ty48, hd, cb, eqty24, eqty26]; (repeat (first | refine ⟨by omega, ?_⟩ | refine ⟨True.intro, ?_⟩)))))
    refine awp_loop (lessPI b R) (fun s => b.length - s.val.1) ⟨(0, a), by simp, by rw [List.drop_zero]; exact hR, h1⟩ ?_ (fun s => ?_)
    · unfold lessPI
      refine Weak.list ?_ ?_; (all_goals simp (disch := omega) only [AllF, AllL, le_self, le_top, lle_self, exists_eq_left', Option.some.injEq, go_sem, ↓reduceIte, reduceCtorEq, Nat.reduceLT, Nat.reducePow, Nat.reduceLeDiff, Nat.reduceAdd, Nat.reduceMul, Nat.reduceSub, Nat.reduceEqDiff, Nat.reduceBEq, Int.reduceToNat, Int.reduceBEq, Int.reduceBNe, ty24, ty26, ty36, ty22, ty3, ty4, ty48, hd, cb, eqty24, eqty26]); (all_goals (repeat' (with_reducible apply And.intro))); (all_goals try (first | exact le_eq rfl | (refine le_int ?_; omega) | (refine le_eq ?_; simp; done)))
    obtain ⟨⟨i, out⟩, hi, he, ho⟩ := s
    unfold lessPI
    simp only [] at hi he ho
    by_cases hn : i < b.length
    · have r1 := rowC_at b i
      rw [drop_getD b i ⟨0, 0⟩ hn] at he
      generalize b.getD i ⟨0, 0⟩ = Y at r1 he
      (repeat ((fail_if_success (show AWP _ _ (.region 9 _ _) _ _)); first | refine awp_seq ?_ | refine awp_yes rfl ?_ | refine awp_no rfl ?_ | refine awp_block ?_ | (refine awp_region fun K hK => ?_) | (refine awp_draw (by kernel_rfl) (by kernel_rfl) fun K hK => ?_) | (refine awp_skip ?_; (first | show AWP _ _ _ _ _ | show loopQ _ _ _ _ _ _)) | (refine awp_exit ?_; (first | show AWP _ _ _ _ _ | show loopQ _ _ _ _ _ _)) | ((first | refine walkS_end (hK _ ?_) | refine walkD_end (hK _ _ (okTrace_spec (by kernel_rfl)) ?_)); clear hK K; (first | show AWP _ _ _ _ _ | show loopQ _ _ _ _ _ _)) | ((first | refine walkS_run1 [] rfl ?_ | refine walkD_run1 [] rfl ?_); simp (maxSteps := 2000000) (disch := omega) only [go_sem, ↓reduceIte, reduceCtorEq, Nat.reduceLT, Nat.reducePow, Nat.reduceLeDiff, Nat.reduceAdd, Nat.reduceMul, Nat.reduceSub, Nat.reduceEqDiff, Nat.reduceBEq, Int.reduceToNat, Int.reduceBEq, Int.reduceBNe, ty24, ty26, ty36, ty22, ty3, ty4, ty48, hd, cb, eqty24, eqty26, r1]; (repeat (first | refine ⟨by omega, ?_⟩ | refine ⟨True.intro, ?_⟩)))))
      refine awp_grow 10 10 4 26 (rowC []) rfl (by kernel_rfl) rfl ?_
      (repeat (first | refine awp_seq ?_ | refine awp_yes rfl ?_ | refine awp_no rfl ?_ | refine awp_block ?_ | (refine awp_region fun K hK => ?_) | (refine awp_draw (by kernel_rfl) (by kernel_rfl) fun K hK => ?_) | (refine awp_skip ?_; (first | show AWP _ _ _ _ _ | show loopQ _ _ _ _ _ _)) | (refine awp_exit ?_; (first | show AWP _ _ _ _ _ | show loopQ _ _ _ _ _ _)) | ((first | refine walkS_end (hK _ ?_) | refine walkD_end (hK _ _ (okTrace_spec (by kernel_rfl)) ?_)); clear hK K; (first | show AWP _ _ _ _ _ | show loopQ _ _ _ _ _ _)) | ((first | refine walkS_run1 [] rfl ?_ | refine walkD_run1 [] rfl ?_); simp (maxSteps := 2000000) (disch := omega) only [go_sem, ↓reduceIte, reduceCtorEq, Nat.reduceLT, Nat.reducePow, Nat.reduceLeDiff, Nat.reduceAdd, Nat.reduceMul, Nat.reduceSub, Nat.reduceEqDiff, Nat.reduceBEq, Int.reduceToNat, Int.reduceBEq, Int.reduceBNe, ty24, ty26, ty36, ty22, ty3, ty4, ty48, hd, cb, eqty24, eqty26, r1]; (repeat (first | refine ⟨by omega, ?_⟩ | refine ⟨True.intro, ?_⟩)))))
      refine awp_loop (lessPJ b out Y i) (fun s => out.length - s.val.1) ⟨(0, []), by simp, by simp, by simp⟩ ?_ (fun s => ?_)
      · unfold lessPJ cbA
        refine Weak.list ?_ ?_; (all_goals simp (disch := omega) only [AllF, AllL, le_self, le_top, lle_self, exists_eq_left', Option.some.injEq, go_sem, ↓reduceIte, reduceCtorEq, Nat.reduceLT, Nat.reducePow, Nat.reduceLeDiff, Nat.reduceAdd, Nat.reduceMul, Nat.reduceSub, Nat.reduceEqDiff, Nat.reduceBEq, Int.reduceToNat, Int.reduceBEq, Int.reduceBNe, ty24, ty26, ty36, ty22, ty3, ty4, ty48, hd, cb, eqty24, eqty26, r1]); (all_goals (repeat' (with_reducible apply And.intro))); (all_goals try (first | exact le_eq rfl | (refine le_int ?_; omega) | (refine le_eq ?_; simp; done)))
      obtain ⟨⟨j, rest⟩, hj, he2, ho2⟩ := s
      unfold lessPJ cbA
      simp only [] at hj he2 ho2
      by_cases hm : j < out.length
      · have r2 := rowC_at out j
        have st2 := take_succ_getD out j ⟨0, 0⟩ hm
        generalize out.getD j ⟨0, 0⟩ = X at r2 st2
        have ls := Less_cube_c X Y
        have ll := lessL_len' X Y
        have so : (out.take (j + 1)).flatMap (fun x => lessL x Y) = (out.take j).flatMap (fun x => lessL x Y) ++ lessL X Y := by
          rw [st2, List.flatMap_append]; simp
        generalize lessL X Y = M at ls ll so
        (repeat (first | refine awp_seq ?_ | refine awp_yes rfl ?_ | refine awp_no rfl ?_ | refine awp_block ?_ | (refine awp_region fun K hK => ?_) | (refine awp_draw (by kernel_rfl) (by kernel_rfl) fun K hK => ?_) | (refine awp_skip ?_; (first | show AWP _ _ _ _ _ | show loopQ _ _ _ _ _ _)) | (refine awp_exit ?_; (first | show AWP _ _ _ _ _ | show loopQ _ _ _ _ _ _)) | ((first | refine walkS_end (hK _ ?_) | refine walkD_end (hK _ _ (okTrace_spec (by kernel_rfl)) ?_)); clear hK K; (first | show AWP _ _ _ _ _ | show loopQ _ _ _ _ _ _)) | ((first | refine walkS_call3 rfl rfl rfl ?_ | refine walkD_call3 rfl rfl rfl ?_); simp (maxSteps := 2000000) (disch := omega) only [go_sem, ↓reduceIte, reduceCtorEq, Nat.reduceLT, Nat.reducePow, Nat.reduceLeDiff, Nat.reduceAdd, Nat.reduceMul, Nat.reduceSub, Nat.reduceEqDiff, Nat.reduceBEq, Int.reduceToNat, Int.reduceBEq, Int.reduceBNe, ty24, ty26, ty36, ty22, ty3, ty4, ty48, hd, cb, eqty24, eqty26, r1, r2]; (first | refine ⟨_, ls, ?_⟩)) | ((first | refine walkS_run1 [] rfl ?_ | refine walkD_run1 [] rfl ?_); simp (maxSteps := 2000000) (disch := omega) only [go_sem, ↓reduceIte, reduceCtorEq, Nat.reduceLT, Nat.reducePow, Nat.reduceLeDiff, Nat.reduceAdd, Nat.reduceMul, Nat.reduceSub, Nat.reduceEqDiff, Nat.reduceBEq, Int.reduceToNat, Int.reduceBEq, Int.reduceBNe, ty24, ty26, ty36, ty22, ty3, ty4, ty48, hd, cb, eqty24, eqty26, r1, r2]; (repeat (first | refine ⟨by omega, ?_⟩ | refine ⟨True.intro, ?_⟩)))))
        refine ⟨⟨(j + 1, rest ++ M), by simp only []; omega, by rw [so, ← he2], by simp; omega⟩, by simp only []; omega, ?_⟩
        refine Weak.list ?_ ?_; (all_goals simp (disch := omega) only [AllF, AllL, le_self, le_top, lle_self, exists_eq_left', Option.some.injEq, go_sem, ↓reduceIte, reduceCtorEq, Nat.reduceLT, Nat.reducePow, Nat.reduceLeDiff, Nat.reduceAdd, Nat.reduceMul, Nat.reduceSub, Nat.reduceEqDiff, Nat.reduceBEq, Int.reduceToNat, Int.reduceBEq, Int.reduceBNe, ty24, ty26, ty36, ty22, ty3, ty4, ty48, hd, cb, eqty24, eqty26, r1, r2]); (all_goals (repeat' (with_reducible apply And.intro))); (all_goals try (first | exact le_eq rfl | (refine le_int ?_; omega) | (refine le_eq ?_; simp; done)))
        · exact le_grgr rfl (by simp) (fun k hk => rowC_cat rest M k)
        · exact lle_grow (by simp) rfl
      · have hjl : j = out.length := by omega
        subst hjl
        rw [List.take_length] at he2
        have hre : rest = lessRest out Y := he2
        have ln := lean_c rest (by omega)
        unfold lessP at he
        rw [← hre] at he
        have hv := leanV_len rest
        generalize leanV rest = V at ln he hv
        by_cases h0 : leanE rest = 0
        · rw [if_pos h0] at he
          rw [h0] at ln
          (repeat (first | refine awp_seq ?_ | refine awp_yes rfl ?_ | refine awp_no rfl ?_ | refine awp_block ?_ | (refine awp_region fun K hK => ?_) | (refine awp_draw (by kernel_rfl) (by kernel_rfl) fun K hK => ?_) | (refine awp_skip ?_; (first | show AWP _ _ _ _ _ | show loopQ _ _ _ _ _ _)) | (refine awp_exit ?_; (first | show AWP _ _ _ _ _ | show loopQ _ _ _ _ _ _)) | ((first | refine walkS_end (hK _ ?_) | refine walkD_end (hK _ _ (okTrace_spec (by kernel_rfl)) ?_)); clear hK K; (first | show AWP _ _ _ _ _ | show loopQ _ _ _ _ _ _)) | ((first | refine walkS_call3 rfl rfl rfl ?_ | refine walkD_call3 rfl rfl rfl ?_); simp (maxSteps := 2000000) (disch := omega) only [go_sem, ↓reduceIte, reduceCtorEq, Nat.reduceLT, Nat.reducePow, Nat.reduceLeDiff, Nat.reduceAdd, Nat.reduceMul, Nat.reduceSub, Nat.reduceEqDiff, Nat.reduceBEq, Int.reduceToNat, Int.reduceBEq, Int.reduceBNe, ty24, ty26, ty36, ty22, ty3, ty4, ty48, hd, cb, eqty24, eqty26, r1]; (first | refine ⟨_, ln, ?_⟩)) | ((first | refine walkS_run1 [] rfl ?_ | refine walkD_run1 [] rfl ?_); simp (maxSteps := 2000000) (disch := omega) only [go_sem, ↓reduceIte, reduceCtorEq, Nat.reduceLT, Nat.reducePow, Nat.reduceLeDiff, Nat.reduceAdd, Nat.reduceMul, Nat.reduceSub, Nat.reduceEqDiff, Nat.reduceBEq, Int.reduceToNat, Int.reduceBEq, Int.reduceBNe, ty24, ty26, ty36, ty22, ty3, ty4, ty48, hd, cb, eqty24, eqty26, r1]; (repeat (first | refine ⟨by omega, ?_⟩ | refine ⟨True.intro, ?_⟩)))))
          refine ⟨⟨(i + 1, V), by simp only []; omega, he, hv⟩, by simp only []; omega, ?_⟩
          refine Weak.list ?_ ?_; (all_goals simp (disch := omega) only [AllF, AllL, le_self, le_top, lle_self, exists_eq_left', Option.some.injEq, go_sem, ↓reduceIte, reduceCtorEq, Nat.reduceLT, Nat.reducePow, Nat.reduceLeDiff, Nat.reduceAdd, Nat.reduceMul, Nat.reduceSub, Nat.reduceEqDiff, Nat.reduceBEq, Int.reduceToNat, Int.reduceBEq, Int.reduceBNe, ty24, ty26, ty36, ty22, ty3, ty4, ty48, hd, cb, eqty24, eqty26, r1]); (all_goals (repeat' (with_reducible apply And.intro))); (all_goals try (first | exact le_eq rfl | (refine le_int ?_; omega) | (refine le_eq ?_; simp; done)))
        · rw [if_neg h0] at he
          have h10 : leanE rest = 10 := by unfold leanE at h0 ⊢; split <;> simp_all
          rw [h10] at ln he
          subst he
          (repeat (first | refine awp_seq ?_ | refine awp_yes rfl ?_ | refine awp_no rfl ?_ | refine awp_block ?_ | (refine awp_region fun K hK => ?_) | (refine awp_draw (by kernel_rfl) (by kernel_rfl) fun K hK => ?_) | (refine awp_skip ?_; (first | show AWP _ _ _ _ _ | show loopQ _ _ _ _ _ _)) | (refine awp_exit ?_; (first | show AWP _ _ _ _ _ | show loopQ _ _ _ _ _ _)) | ((first | refine walkS_end (hK _ ?_) | refine walkD_end (hK _ _ (okTrace_spec (by kernel_rfl)) ?_)); clear hK K; (first | show AWP _ _ _ _ _ | show loopQ _ _ _ _ _ _)) | ((first | refine walkS_call3 rfl rfl rfl ?_ | refine walkD_call3 rfl rfl rfl ?_); simp (maxSteps := 2000000) (disch := omega) only [go_sem, ↓reduceIte, reduceCtorEq, Nat.reduceLT, Nat.reducePow, Nat.reduceLeDiff, Nat.reduceAdd, Nat.reduceMul, Nat.reduceSub, Nat.reduceEqDiff, Nat.reduceBEq, Int.reduceToNat, Int.reduceBEq, Int.reduceBNe, ty24, ty26, ty36, ty22, ty3, ty4, ty48, hd, cb, eqty24, eqty26, r1]; (first | refine ⟨_, ln, ?_⟩)) | ((first | refine walkS_run1 [] rfl ?_ | refine walkD_run1 [] rfl ?_); simp (maxSteps := 2000000) (disch := omega) only [go_sem, ↓reduceIte, reduceCtorEq, Nat.reduceLT, Nat.reducePow, Nat.reduceLeDiff, Nat.reduceAdd, Nat.reduceMul, Nat.reduceSub, Nat.reduceEqDiff, Nat.reduceBEq, Int.reduceToNat, Int.reduceBEq, Int.reduceBNe, ty24, ty26, ty36, ty22, ty3, ty4, ty48, hd, cb, eqty24, eqty26, r1]; (repeat (first | refine ⟨by omega, ?_⟩ | refine ⟨True.intro, ?_⟩)))))
          refine awp_slot 4 _ (.p (.d (.sl 4 ([] : List Cube).length (rowC [])))) rfl (le_nil 4 _ _ rfl) ?_
          refine awp_ret ⟨_, ?_, rfl⟩; rw [Try.results47]; simp (disch := omega) only [ResVars, ResVar, ptrLoc, go_sem, ↓reduceIte, reduceCtorEq, Nat.reduceLT, Nat.reducePow, Nat.reduceLeDiff, Nat.reduceAdd, Nat.reduceMul, Nat.reduceSub, Nat.reduceEqDiff, Nat.reduceBEq, Int.reduceToNat, Int.reduceBEq, Int.reduceBNe, ty24, ty26, ty36, ty22, ty3, ty4, ty48, hd, cb, eqty24, eqty26, r1]
    · have hil : i = b.length := by omega
      subst hil
      rw [List.drop_length] at he
      unfold lessP at he
      subst he
      have cp := Clip_c out.length (rowC out) (by omega)
      (repeat (first | refine awp_seq ?_ | refine awp_yes rfl ?_ | refine awp_no rfl ?_ | refine awp_block ?_ | (refine awp_region fun K hK => ?_) | (refine awp_draw (by kernel_rfl) (by kernel_rfl) fun K hK => ?_) | (refine awp_skip ?_; (first | show AWP _ _ _ _ _ | show loopQ _ _ _ _ _ _)) | (refine awp_exit ?_; (first | show AWP _ _ _ _ _ | show loopQ _ _ _ _ _ _)) | ((first | refine walkS_end (hK _ ?_) | refine walkD_end (hK _ _ (okTrace_spec (by kernel_rfl)) ?_)); clear hK K; (first | show AWP _ _ _ _ _ | show loopQ _ _ _ _ _ _)) | ((first | refine walkS_call3 rfl rfl rfl ?_ | refine walkD_call3 rfl rfl rfl ?_); simp (maxSteps := 2000000) (disch := omega) only [go_sem, ↓reduceIte, reduceCtorEq, Nat.reduceLT, Nat.reducePow, Nat.reduceLeDiff, Nat.reduceAdd, Nat.reduceMul, Nat.reduceSub, Nat.reduceEqDiff, Nat.reduceBEq, Int.reduceToNat, Int.reduceBEq, Int.reduceBNe, ty24, ty26, ty36, ty22, ty3, ty4, ty48, hd, cb, eqty24, eqty26]; (first | refine ⟨_, cp, ?_⟩)) | ((first | refine walkS_run1 [] rfl ?_ | refine walkD_run1 [] rfl ?_); simp (maxSteps := 2000000) (disch := omega) only [go_sem, ↓reduceIte, reduceCtorEq, Nat.reduceLT, Nat.reducePow, Nat.reduceLeDiff, Nat.reduceAdd, Nat.reduceMul, Nat.reduceSub, Nat.reduceEqDiff, Nat.reduceBEq, Int.reduceToNat, Int.reduceBEq, Int.reduceBNe, ty24, ty26, ty36, ty22, ty3, ty4, ty48, hd, cb, eqty24, eqty26]; (repeat (first | refine ⟨by omega, ?_⟩ | refine ⟨True.intro, ?_⟩)))))
      refine awp_ret ⟨_, ?_, rfl⟩; rw [Try.results47]; simp (disch := omega) only [ResVars, ResVar, ptrLoc, go_sem, ↓reduceIte, reduceCtorEq, Nat.reduceLT, Nat.reducePow, Nat.reduceLeDiff, Nat.reduceAdd, Nat.reduceMul, Nat.reduceSub, Nat.reduceEqDiff, Nat.reduceBEq, Int.reduceToNat, Int.reduceBEq, Int.reduceBNe, ty24, ty26, ty36, ty22, ty3, ty4, ty48, hd, cb, eqty24, eqty26]
def lessPR (a b : List Cube) : List Cube × Int := if soundP a && soundP b then lessP b a else ([], 2)
theorem LessP_c (a b : List Cube) (ha : a.length ≤ 1099511627776) (hb : b.length ≤ 1099511627776) : ACalls Try.prog 47 [.d (.sl 4 a.length (rowC a)), .d (.sl 4 b.length (rowC b))]
    (· = [.d (.sl 4 (lessPR a b).1.length (rowC (lessPR a b).1)), .d (.v (.int .i64 (lessPR a b).2))]) := LessP_c' a b ha hb _ rfl
theorem lessP_err : ∀ (b a : List Cube), (lessP b a).2 = 0 ∨ (lessP b a).2 = 10 ∧ (lessP b a).1 = []
  | [], a => .inl rfl
  | y :: r, a => by
    unfold lessP
    split
    · exact lessP_err r _
    · rename_i h
      refine .inr ⟨?_, rfl⟩
      unfold leanE at h ⊢
      simp only []
      split <;> simp_all
theorem WithinP_c (a b : List Cube) (ha : a.length ≤ 1099511627776) (hb : b.length ≤ 1099511627776) : ACalls Try.prog 49 [.d (.sl 4 a.length (rowC a)), .d (.sl 4 b.length (rowC b))]
    (· = [.d (.v (.bool ((lessPR a b).2 == 0 && (lessPR a b).1.isEmpty))), .d (.v (.int .i64 (lessPR a b).2))]) := by
  have ls := LessP_c a b ha hb
  have hr : (lessPR a b).2 = 0 ∨ (lessPR a b).2 = 2 ∨ (lessPR a b).2 = 10 := by
    unfold lessPR
    split
    · rcases lessP_err b a with h | ⟨h, _⟩
      · exact .inl h
      · exact .inr (.inr h)
    · exact .inr (.inl rfl)
  generalize lessPR a b = q at ls hr ⊢
  obtain ⟨o, e⟩ := q
  simp only [] at ls hr ⊢
  rcases hr with rfl | rfl | rfl
  · cases o with
    | nil =>
      refine acalls_of_awp Try.func49 rfl (by decide +kernel) (by rw [Try.ntmps49]; simp) ?_; rw [Try.ntmps49]; simp only [frOf]
      (repeat (first | refine awp_seq ?_ | refine awp_yes rfl ?_ | refine awp_no rfl ?_ | refine awp_block ?_ | (refine awp_region fun K hK => ?_) | (refine awp_draw (by kernel_rfl) (by kernel_rfl) fun K hK => ?_) | (refine awp_skip ?_; (first | show AWP _ _ _ _ _ | show loopQ _ _ _ _ _ _)) | (refine awp_exit ?_; (first | show AWP _ _ _ _ _ | show loopQ _ _ _ _ _ _)) | ((first | refine walkS_end (hK _ ?_) | refine walkD_end (hK _ _ (okTrace_spec (by kernel_rfl)) ?_)); clear hK K; (first | show AWP _ _ _ _ _ | show loopQ _ _ _ _ _ _)) | ((first | refine walkS_call3 rfl rfl rfl ?_ | refine walkD_call3 rfl rfl rfl ?_); simp (maxSteps := 2000000) (disch := omega) only [go_sem, ↓reduceIte, reduceCtorEq, Nat.reduceLT, Nat.reducePow, Nat.reduceLeDiff, Nat.reduceAdd, Nat.reduceMul, Nat.reduceSub, Nat.reduceEqDiff, Nat.reduceBEq, Int.reduceToNat, Int.reduceBEq, Int.reduceBNe, ty24, ty26, ty36, ty22, ty3, ty4, ty48, hd, cb, eqty24, eqty26]; (first | refine ⟨_, ls, ?_⟩)) | ((first | refine walkS_run1 [] rfl ?_ | refine walkD_run1 [] rfl ?_); simp (maxSteps := 2000000) (disch := omega) only [go_sem, ↓reduceIte, reduceCtorEq, Nat.reduceLT, Nat.reducePow, Nat.reduceLeDiff, Nat.reduceAdd, Nat.reduceMul, Nat.reduceSub, Nat.reduceEqDiff, Nat.reduceBEq, Int.reduceToNat, Int.reduceBEq, Int.reduceBNe, ty24, ty26, ty36, ty22, ty3, ty4, ty48, hd, cb, eqty24, eqty26]; (repeat (first | refine ⟨by omega, ?_⟩ | refine ⟨True.intro, ?_⟩)))))
      refine awp_ret ⟨_, ?_, rfl⟩; rw [Try.results49]; simp (disch := omega) only [ResVars, ResVar, ptrLoc, go_sem, ↓reduceIte, reduceCtorEq, Nat.reduceLT, Nat.reducePow, Nat.reduceLeDiff, Nat.reduceAdd, Nat.reduceMul, Nat.reduceSub, Nat.reduceEqDiff, Nat.reduceBEq, Int.reduceToNat, Int.reduceBEq, Int.reduceBNe, ty24, ty26, ty36, ty22, ty3, ty4, ty48, hd, cb, eqty24, eqty26]
    | cons x o =>
      have q : (((x :: o).length : Int) == 0) = false := by rw [beq_eq_false_iff_ne]; simp only [List.length_cons]; omega
      generalize hL : x :: o = L at ls q
      refine acalls_of_awp Try.func49 rfl (by decide +kernel) (by rw [Try.ntmps49]; simp) ?_; rw [Try.ntmps49]; simp only [frOf]
      (repeat (first | refine awp_seq ?_ | refine awp_yes rfl ?_ | refine awp_no rfl ?_ | refine awp_block ?_ | (refine awp_region fun K hK => ?_) | (refine awp_draw (by kernel_rfl) (by kernel_rfl) fun K hK => ?_) | (refine awp_skip ?_; (first | show AWP _ _ _ _ _ | show loopQ _ _ _ _ _ _)) | (refine awp_exit ?_; (first | show AWP _ _ _ _ _ | show loopQ _ _ _ _ _ _)) | ((first | refine walkS_end (hK _ ?_) | refine walkD_end (hK _ _ (okTrace_spec (by kernel_rfl)) ?_)); clear hK K; (first | show AWP _ _ _ _ _ | show loopQ _ _ _ _ _ _)) | ((first | refine walkS_call3 rfl rfl rfl ?_ | refine walkD_call3 rfl rfl rfl ?_); simp (maxSteps := 2000000) (disch := omega) only [go_sem, ↓reduceIte, reduceCtorEq, Nat.reduceLT, Nat.reducePow, Nat.reduceLeDiff, Nat.reduceAdd, Nat.reduceMul, Nat.reduceSub, Nat.reduceEqDiff, Nat.reduceBEq, Int.reduceToNat, Int.reduceBEq, Int.reduceBNe, ty24, ty26, ty36, ty22, ty3, ty4, ty48, hd, cb, eqty24, eqty26, q]; (first | refine ⟨_, ls, ?_⟩)) | ((first | refine walkS_run1 [] rfl ?_ | refine walkD_run1 [] rfl ?_); simp (maxSteps := 2000000) (disch := omega) only [go_sem, ↓reduceIte, reduceCtorEq, Nat.reduceLT, Nat.reducePow, Nat.reduceLeDiff, Nat.reduceAdd, Nat.reduceMul, Nat.reduceSub, Nat.reduceEqDiff, Nat.reduceBEq, Int.reduceToNat, Int.reduceBEq, Int.reduceBNe, ty24, ty26, ty36, ty22, ty3, ty4, ty48, hd, cb, eqty24, eqty26, q]; (repeat (first | refine ⟨by omega, ?_⟩ | refine ⟨True.intro, ?_⟩)))))
      refine awp_ret ⟨_, ?_, rfl⟩; rw [Try.results49]; simp (disch := omega) only [ResVars, ResVar, ptrLoc, go_sem, ↓reduceIte, reduceCtorEq, Nat.reduceLT, Nat.reducePow, Nat.reduceLeDiff, Nat.reduceAdd, Nat.reduceMul, Nat.reduceSub, Nat.reduceEqDiff, Nat.reduceBEq, Int.reduceToNat, Int.reduceBEq, Int.reduceBNe, ty24, ty26, ty36, ty22, ty3, ty4, ty48, hd, cb, eqty24, eqty26, q]
      rw [← hL]; rfl
  · refine acalls_of_awp Try.func49 rfl (by decide +kernel) (by rw [Try.ntmps49]; simp) ?_; rw [Try.ntmps49]; simp only [frOf]
    (repeat (first | refine awp_seq ?_ | refine awp_yes rfl ?_ | refine awp_no rfl ?_ | refine awp_block ?_ | (refine awp_region fun K hK => ?_) | (refine awp_draw (by kernel_rfl) (by kernel_rfl) fun K hK => ?_) | (refine awp_skip ?_; (first | show AWP _ _ _ _ _ | show loopQ _ _ _ _ _ _)) | (refine awp_exit ?_; (first | show AWP _ _ _ _ _ | show loopQ _ _ _ _ _ _)) | ((first | refine walkS_end (hK _ ?_) | refine walkD_end (hK _ _ (okTrace_spec (by kernel_rfl)) ?_)); clear hK K; (first | show AWP _ _ _ _ _ | show loopQ _ _ _ _ _ _)) | ((first | refine walkS_call3 rfl rfl rfl ?_ | refine walkD_call3 rfl rfl rfl ?_); simp (maxSteps := 2000000) (disch := omega) only [go_sem, ↓reduceIte, reduceCtorEq, Nat.reduceLT, Nat.reducePow, Nat.reduceLeDiff, Nat.reduceAdd, Nat.reduceMul, Nat.reduceSub, Nat.reduceEqDiff, Nat.reduceBEq, Int.reduceToNat, Int.reduceBEq, Int.reduceBNe, ty24, ty26, ty36, ty22, ty3, ty4, ty48, hd, cb, eqty24, eqty26]; (first | refine ⟨_, ls, ?_⟩)) | ((first | refine walkS_run1 [] rfl ?_ | refine walkD_run1 [] rfl ?_); simp (maxSteps := 2000000) (disch := omega) only [go_sem, ↓reduceIte, reduceCtorEq, Nat.reduceLT, Nat.reducePow, Nat.reduceLeDiff, Nat.reduceAdd, Nat.reduceMul, Nat.reduceSub, Nat.reduceEqDiff, Nat.reduceBEq, Int.reduceToNat, Int.reduceBEq, Int.reduceBNe, ty24, ty26, ty36, ty22, ty3, ty4, ty48, hd, cb, eqty24, eqty26]; (repeat (first | refine ⟨by omega, ?_⟩ | refine ⟨True.intro, ?_⟩)))))
    refine awp_ret ⟨_, ?_, rfl⟩; rw [Try.results49]; simp (disch := omega) only [ResVars, ResVar, ptrLoc, go_sem, ↓reduceIte, reduceCtorEq, Nat.reduceLT, Nat.reducePow, Nat.reduceLeDiff, Nat.reduceAdd, Nat.reduceMul, Nat.reduceSub, Nat.reduceEqDiff, Nat.reduceBEq, Int.reduceToNat, Int.reduceBEq, Int.reduceBNe, ty24, ty26, ty36, ty22, ty3, ty4, ty48, hd, cb, eqty24, eqty26]
  · refine acalls_of_awp Try.func49 rfl (by decide +kernel) (by rw [Try.ntmps49]; simp) ?_; rw [Try.ntmps49]; simp only [frOf]
    (repeat (first | refine awp_seq ?_ | refine awp_yes rfl ?_ | refine awp_no rfl ?_ | refine awp_block ?_ | (refine awp_region fun K hK => ?_) | (refine awp_draw (by kernel_rfl) (by kernel_rfl) fun K hK => ?_) | (refine awp_skip ?_; (first | show AWP _ _ _ _ _ | show loopQ _ _ _ _ _ _)) | (refine awp_exit ?_; (first | show AWP _ _ _ _ _ | show loopQ _ _ _ _ _ _)) | ((first | refine walkS_end (hK _ ?_) | refine walkD_end (hK _ _ (okTrace_spec (by kernel_rfl)) ?_)); clear hK K; (first | show AWP _ _ _ _ _ | show loopQ _ _ _ _ _ _)) | ((first | refine walkS_call3 rfl rfl rfl ?_ | refine walkD_call3 rfl rfl rfl ?_); simp (maxSteps := 2000000) (disch := omega) only [go_sem, ↓reduceIte, reduceCtorEq, Nat.reduceLT, Nat.reducePow, Nat.reduceLeDiff, Nat.reduceAdd, Nat.reduceMul, Nat.reduceSub, Nat.reduceEqDiff, Nat.reduceBEq, Int.reduceToNat, Int.reduceBEq, Int.reduceBNe, ty24, ty26, ty36, ty22, ty3, ty4, ty48, hd, cb, eqty24, eqty26]; (first | refine ⟨_, ls, ?_⟩)) | ((first | refine walkS_run1 [] rfl ?_ | refine walkD_run1 [] rfl ?_); simp (maxSteps := 2000000) (disch := omega) only [go_sem, ↓reduceIte, reduceCtorEq, Nat.reduceLT, Nat.reducePow, Nat.reduceLeDiff, Nat.reduceAdd, Nat.reduceMul, Nat.reduceSub, Nat.reduceEqDiff, Nat.reduceBEq, Int.reduceToNat, Int.reduceBEq, Int.reduceBNe, ty24, ty26, ty36, ty22, ty3, ty4, ty48, hd, cb, eqty24, eqty26]; (repeat (first | refine ⟨by omega, ?_⟩ | refine ⟨True.intro, ?_⟩)))))
    refine awp_ret ⟨_, ?_, rfl⟩; rw [Try.results49]; simp (disch := omega) only [ResVars, ResVar, ptrLoc, go_sem, ↓reduceIte, reduceCtorEq, Nat.reduceLT, Nat.reducePow, Nat.reduceLeDiff, Nat.reduceAdd, Nat.reduceMul, Nat.reduceSub, Nat.reduceEqDiff, Nat.reduceBEq, Int.reduceToNat, Int.reduceBEq, Int.reduceBNe, ty24, ty26, ty36, ty22, ty3, ty4, ty48, hd, cb, eqty24, eqty26]
end Go.Proofs.Ytfcfhlfehomhpaa
