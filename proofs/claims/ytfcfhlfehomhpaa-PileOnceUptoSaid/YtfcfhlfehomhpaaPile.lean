/- Package pile, and what it takes of Go's slices. Conditions: none, but that no row is greater than memory bears. -/
import Derived.Test.YtfcfhlfehomhpaaField
import Derived.Test.YtfcfhlfehomhpaaMc
set_option linter.unusedSimpArgs false
set_option linter.unusedVariables false
namespace Go.Proofs.Ytfcfhlfehomhpaa
open Go.Proofs.Ytfcfhlfehomhpaa.AL
theorem rowC_at (L : List Cube) (i : Nat) : rowC L i = cb (L.getD i ⟨0, 0⟩) := rfl
theorem getD_in {α : Type} {L : List α} {i : Nat} (h : i < L.length) (z : α) : L.getD i z ∈ L := by
  rw [List.getD_eq_getElem?_getD, List.getElem?_eq_getElem h]; exact List.getElem_mem h
theorem drop_getD {α : Type} (L : List α) (i : Nat) (z : α) (h : i < L.length) : L.drop i = L.getD i z :: L.drop (i + 1) := by
  rw [List.getD_eq_getElem?_getD, List.getElem?_eq_getElem h, List.drop_eq_getElem_cons h]; rfl
/-- the first that a test is true of; below 0: none -/
def idxF {α : Type} (p : α → Bool) : List α → Nat → Int
  | [], _ => -1
  | x :: r, k => if p x then (k : Int) else idxF p r (k + 1)
theorem idxF_any {α : Type} (p : α → Bool) : ∀ (l : List α) (k : Nat), decide (idxF p l k ≥ 0) = l.any p
  | [], k => rfl
  | x :: r, k => by
    unfold idxF
    cases h : p x
    · simp only [Bool.false_eq_true, if_false, List.any_cons, h, Bool.false_or]; exact idxF_any p r (k + 1)
    · simp only [if_true, List.any_cons, h, Bool.true_or]; exact decide_eq_true (by omega)
theorem idxF_lt {α : Type} (p : α → Bool) : ∀ (l : List α) (k : Nat), idxF p l k = -1 ∨ ∃ j : Nat, idxF p l k = (j : Int) ∧ k ≤ j ∧ j < k + l.length
  | [], k => .inl rfl
  | x :: r, k => by
    unfold idxF
    split
    · exact .inr ⟨k, rfl, Nat.le_refl _, by simp⟩
    · rcases idxF_lt p r (k + 1) with h | ⟨j, h1, h2, h3⟩
      · exact .inl h
      · exact .inr ⟨j, h1, by omega, by simp; omega⟩
def indexI (l : List Cube) (g : FuncId) (caps : List PV) (p : Cube → Bool) (R : Int) (s : {i : Nat // i ≤ l.length ∧ idxF p (l.drop i) i = R}) : ASt :=
  ⟨[(8, .p (.d (.v (.int .i64 (s.val : Int))))), (7, .p (.d (.v (.int .i64 (l.length : Int))))), (1, .p (.fn (.func g) [] caps)), (0, .p (.d (.sl 4 l.length (rowC l))))], []⟩
theorem IndexFunc_c (g : FuncId) (caps : List PV) (p : Cube → Bool) (l : List Cube) (hl : l.length ≤ 140737488355328) (hp : ∀ k ∈ l, ACalls Try.prog g (.agg (cb k) :: caps) (· = [.d (.v (.bool (p k)))])) :
    ACalls Try.prog 62 [.d (.sl 4 l.length (rowC l)), .fn (.func g) [] caps] (· = [.d (.v (.int .i64 (idxF p l 0)))]) := by
  obtain ⟨R, hR⟩ : ∃ R, idxF p l 0 = R := ⟨_, rfl⟩
  rw [hR]
  refine acalls_of_awp Try.func62 rfl (by decide +kernel) (by rw [Try.ntmps62]; simp) ?_; rw [Try.ntmps62]; simp only [frOf]
  (repeat (first | refine awp_seq ?_ | refine awp_yes rfl ?_ | refine awp_no rfl ?_ | refine awp_block ?_ | (refine awp_region fun K hK => ?_) | (refine awp_draw (by kernel_rfl) (by kernel_rfl) fun K hK => ?_) | (refine awp_skip ?_; (first | show AWP _ _ _ _ _ | show loopQ _ _ _ _ _ _)) | (refine awp_exit ?_; (first | show AWP _ _ _ _ _ | show loopQ _ _ _ _ _ _)) | ((first | refine walkS_end (hK _ ?_) | refine walkD_end (hK _ _ (okTrace_spec (by kernel_rfl)) ?_)); clear hK K; (first | show AWP _ _ _ _ _ | show loopQ _ _ _ _ _ _)) | ((first | refine walkS_run1 [] rfl ?_ | refine walkD_run1 [] rfl ?_); simp (maxSteps := 2000000) (disch := omega) only [go_sem, ↓reduceIte, reduceCtorEq, Nat.reduceLT, Nat.reducePow, Nat.reduceLeDiff, Nat.reduceAdd, Nat.reduceMul, Nat.reduceSub, Nat.reduceEqDiff, Nat.reduceBEq, Int.reduceToNat, Int.reduceBEq, Int.reduceBNe, ty24, ty26, ty36, ty22, ty3, ty4, ty48, hd, cb, eqty24, eqty26]; (repeat (first | refine ⟨by omega, ?_⟩ | refine ⟨True.intro, ?_⟩)))))
  refine awp_loop (indexI l g caps p R) (fun s => l.length - s.val) ⟨0, by omega, by rw [List.drop_zero]; exact hR⟩ ?_ (fun s => ?_)
  · unfold indexI
    refine Weak.list ?_ ?_; (all_goals simp (disch := omega) only [AllF, AllL, le_self, le_top, lle_self, exists_eq_left', Option.some.injEq, go_sem, ↓reduceIte, reduceCtorEq, Nat.reduceLT, Nat.reducePow, Nat.reduceLeDiff, Nat.reduceAdd, Nat.reduceMul, Nat.reduceSub, Nat.reduceEqDiff, Nat.reduceBEq, Int.reduceToNat, Int.reduceBEq, Int.reduceBNe, ty24, ty26, ty36, ty22, ty3, ty4, ty48, hd, cb, eqty24, eqty26]); (all_goals (repeat' (with_reducible apply And.intro))); (all_goals try (first | exact le_eq rfl | (refine le_int ?_; omega) | (refine le_eq ?_; simp; done)))
  obtain ⟨i, hi, he⟩ := s
  unfold indexI
  by_cases hn : i < l.length
  · rw [drop_getD l i ⟨0, 0⟩ hn] at he
    have r1 := rowC_at l i
    have hk := hp _ (getD_in hn ⟨0, 0⟩)
    generalize l.getD i ⟨0, 0⟩ = K at he r1 hk
    unfold idxF at he
    cases hb : p K
    all_goals
      rw [hb] at he hk
      simp only [Bool.false_eq_true, if_false, if_true] at he
      (repeat (first | refine awp_seq ?_ | refine awp_yes rfl ?_ | refine awp_no rfl ?_ | refine awp_block ?_ | (refine awp_region fun K hK => ?_) | (refine awp_draw (by kernel_rfl) (by kernel_rfl) fun K hK => ?_) | (refine awp_skip ?_; (first | show AWP _ _ _ _ _ | show loopQ _ _ _ _ _ _)) | (refine awp_exit ?_; (first | show AWP _ _ _ _ _ | show loopQ _ _ _ _ _ _)) | ((first | refine walkS_end (hK _ ?_) | refine walkD_end (hK _ _ (okTrace_spec (by kernel_rfl)) ?_)); clear hK K; (first | show AWP _ _ _ _ _ | show loopQ _ _ _ _ _ _)) | ((first | refine walkS_call3 rfl rfl rfl ?_ | refine walkD_call3 rfl rfl rfl ?_); simp (maxSteps := 2000000) (disch := omega) only [go_sem, ↓reduceIte, reduceCtorEq, Nat.reduceLT, Nat.reducePow, Nat.reduceLeDiff, Nat.reduceAdd, Nat.reduceMul, Nat.reduceSub, Nat.reduceEqDiff, Nat.reduceBEq, Int.reduceToNat, Int.reduceBEq, Int.reduceBNe, ty24, ty26, ty36, ty22, ty3, ty4, ty48, hd, cb, eqty24, eqty26, r1]; (first | refine ⟨_, hk, ?_⟩)) | ((first | refine walkS_run1 [] rfl ?_ | refine walkD_run1 [] rfl ?_); simp (maxSteps := 2000000) (disch := omega) only [go_sem, ↓reduceIte, reduceCtorEq, Nat.reduceLT, Nat.reducePow, Nat.reduceLeDiff, Nat.reduceAdd, Nat.reduceMul, Nat.reduceSub, Nat.reduceEqDiff, Nat.reduceBEq, Int.reduceToNat, Int.reduceBEq, Int.reduceBNe, ty24, ty26, ty36, ty22, ty3, ty4, ty48, hd, cb, eqty24, eqty26, r1]; (repeat (first | refine ⟨by omega, ?_⟩ | refine ⟨True.intro, ?_⟩)))))
    · refine ⟨⟨i + 1, by omega, he⟩, by simp only []; omega, ?_⟩
      refine Weak.list ?_ ?_; (all_goals simp (disch := omega) only [AllF, AllL, le_self, le_top, lle_self, exists_eq_left', Option.some.injEq, go_sem, ↓reduceIte, reduceCtorEq, Nat.reduceLT, Nat.reducePow, Nat.reduceLeDiff, Nat.reduceAdd, Nat.reduceMul, Nat.reduceSub, Nat.reduceEqDiff, Nat.reduceBEq, Int.reduceToNat, Int.reduceBEq, Int.reduceBNe, ty24, ty26, ty36, ty22, ty3, ty4, ty48, hd, cb, eqty24, eqty26, r1]); (all_goals (repeat' (with_reducible apply And.intro))); (all_goals try (first | exact le_eq rfl | (refine le_int ?_; omega) | (refine le_eq ?_; simp; done)))
    · refine awp_ret ⟨_, ?_, rfl⟩; rw [Try.results62]; simp (disch := omega) only [ResVars, ResVar, ptrLoc, go_sem, ↓reduceIte, reduceCtorEq, Nat.reduceLT, Nat.reducePow, Nat.reduceLeDiff, Nat.reduceAdd, Nat.reduceMul, Nat.reduceSub, Nat.reduceEqDiff, Nat.reduceBEq, Int.reduceToNat, Int.reduceBEq, Int.reduceBNe, ty24, ty26, ty36, ty22, ty3, ty4, ty48, hd, cb, eqty24, eqty26, r1]
      rw [he]
  · have : i = l.length := by omega
    subst this
    rw [List.drop_length] at he
    unfold idxF at he
    (repeat (first | refine awp_seq ?_ | refine awp_yes rfl ?_ | refine awp_no rfl ?_ | refine awp_block ?_ | (refine awp_region fun K hK => ?_) | (refine awp_draw (by kernel_rfl) (by kernel_rfl) fun K hK => ?_) | (refine awp_skip ?_; (first | show AWP _ _ _ _ _ | show loopQ _ _ _ _ _ _)) | (refine awp_exit ?_; (first | show AWP _ _ _ _ _ | show loopQ _ _ _ _ _ _)) | ((first | refine walkS_end (hK _ ?_) | refine walkD_end (hK _ _ (okTrace_spec (by kernel_rfl)) ?_)); clear hK K; (first | show AWP _ _ _ _ _ | show loopQ _ _ _ _ _ _)) | ((first | refine walkS_run1 [] rfl ?_ | refine walkD_run1 [] rfl ?_); simp (maxSteps := 2000000) (disch := omega) only [go_sem, ↓reduceIte, reduceCtorEq, Nat.reduceLT, Nat.reducePow, Nat.reduceLeDiff, Nat.reduceAdd, Nat.reduceMul, Nat.reduceSub, Nat.reduceEqDiff, Nat.reduceBEq, Int.reduceToNat, Int.reduceBEq, Int.reduceBNe, ty24, ty26, ty36, ty22, ty3, ty4, ty48, hd, cb, eqty24, eqty26]; (repeat (first | refine ⟨by omega, ?_⟩ | refine ⟨True.intro, ?_⟩)))))
    refine awp_ret ⟨_, ?_, rfl⟩; rw [Try.results62]; simp (disch := omega) only [ResVars, ResVar, ptrLoc, go_sem, ↓reduceIte, reduceCtorEq, Nat.reduceLT, Nat.reducePow, Nat.reduceLeDiff, Nat.reduceAdd, Nat.reduceMul, Nat.reduceSub, Nat.reduceEqDiff, Nat.reduceBEq, Int.reduceToNat, Int.reduceBEq, Int.reduceBNe, ty24, ty26, ty36, ty22, ty3, ty4, ty48, hd, cb, eqty24, eqty26]
    rw [he]
theorem ContainsFunc_c (g : FuncId) (caps : List PV) (p : Cube → Bool) (l : List Cube) (hl : l.length ≤ 140737488355328) (hp : ∀ k ∈ l, ACalls Try.prog g (.agg (cb k) :: caps) (· = [.d (.v (.bool (p k)))])) :
    ACalls Try.prog 63 [.d (.sl 4 l.length (rowC l)), .fn (.func g) [] caps] (· = [.d (.v (.bool (l.any p)))]) := by
  have ix := IndexFunc_c g caps p l hl hp
  have ia := idxF_any p l 0
  generalize idxF p l 0 = R at ix ia
  refine acalls_of_awp Try.func63 rfl (by decide +kernel) (by rw [Try.ntmps63]; simp) ?_; rw [Try.ntmps63]; simp only [frOf]
  (repeat (first | refine awp_seq ?_ | refine awp_yes rfl ?_ | refine awp_no rfl ?_ | refine awp_block ?_ | (refine awp_region fun K hK => ?_) | (refine awp_draw (by kernel_rfl) (by kernel_rfl) fun K hK => ?_) | (refine awp_skip ?_; (first | show AWP _ _ _ _ _ | show loopQ _ _ _ _ _ _)) | (refine awp_exit ?_; (first | show AWP _ _ _ _ _ | show loopQ _ _ _ _ _ _)) | ((first | refine walkS_end (hK _ ?_) | refine walkD_end (hK _ _ (okTrace_spec (by kernel_rfl)) ?_)); clear hK K; (first | show AWP _ _ _ _ _ | show loopQ _ _ _ _ _ _)) | ((first | refine walkS_call3 rfl rfl rfl ?_ | refine walkD_call3 rfl rfl rfl ?_); simp (maxSteps := 2000000) (disch := omega) only [go_sem, ↓reduceIte, reduceCtorEq, Nat.reduceLT, Nat.reducePow, Nat.reduceLeDiff, Nat.reduceAdd, Nat.reduceMul, Nat.reduceSub, Nat.reduceEqDiff, Nat.reduceBEq, Int.reduceToNat, Int.reduceBEq, Int.reduceBNe, ty24, ty26, ty36, ty22, ty3, ty4, ty48, hd, cb, eqty24, eqty26]; (first | refine ⟨_, ix, ?_⟩)) | ((first | refine walkS_run1 [] rfl ?_ | refine walkD_run1 [] rfl ?_); simp (maxSteps := 2000000) (disch := omega) only [go_sem, ↓reduceIte, reduceCtorEq, Nat.reduceLT, Nat.reducePow, Nat.reduceLeDiff, Nat.reduceAdd, Nat.reduceMul, Nat.reduceSub, Nat.reduceEqDiff, Nat.reduceBEq, Int.reduceToNat, Int.reduceBEq, Int.reduceBNe, ty24, ty26, ty36, ty22, ty3, ty4, ty48, hd, cb, eqty24, eqty26]; (repeat (first | refine ⟨by omega, ?_⟩ | refine ⟨True.intro, ?_⟩)))))
  refine awp_ret ⟨_, ?_, rfl⟩; rw [Try.results63]; simp (disch := omega) only [ResVars, ResVar, ptrLoc, go_sem, ↓reduceIte, reduceCtorEq, Nat.reduceLT, Nat.reducePow, Nat.reduceLeDiff, Nat.reduceAdd, Nat.reduceMul, Nat.reduceSub, Nat.reduceEqDiff, Nat.reduceBEq, Int.reduceToNat, Int.reduceBEq, Int.reduceBNe, ty24, ty26, ty36, ty22, ty3, ty4, ty48, hd, cb, eqty24, eqty26]
  rw [ia]
theorem notSound_c (k : Cube) : ACalls Try.prog 64 [.agg (cb k)] (· = [.d (.v (.bool (!k.sound)))]) := by
  refine acalls_of_awp Try.func64 rfl (by decide +kernel) (by rw [Try.ntmps64]; simp) ?_; rw [Try.ntmps64]; simp only [frOf]
  (repeat (first | refine awp_seq ?_ | refine awp_yes rfl ?_ | refine awp_no rfl ?_ | refine awp_block ?_ | (refine awp_region fun K hK => ?_) | (refine awp_draw (by kernel_rfl) (by kernel_rfl) fun K hK => ?_) | (refine awp_skip ?_; (first | show AWP _ _ _ _ _ | show loopQ _ _ _ _ _ _)) | (refine awp_exit ?_; (first | show AWP _ _ _ _ _ | show loopQ _ _ _ _ _ _)) | ((first | refine walkS_end (hK _ ?_) | refine walkD_end (hK _ _ (okTrace_spec (by kernel_rfl)) ?_)); clear hK K; (first | show AWP _ _ _ _ _ | show loopQ _ _ _ _ _ _)) | ((first | refine walkS_call3 rfl rfl rfl ?_ | refine walkD_call3 rfl rfl rfl ?_); simp (maxSteps := 2000000) (disch := omega) only [go_sem, ↓reduceIte, reduceCtorEq, Nat.reduceLT, Nat.reducePow, Nat.reduceLeDiff, Nat.reduceAdd, Nat.reduceMul, Nat.reduceSub, Nat.reduceEqDiff, Nat.reduceBEq, Int.reduceToNat, Int.reduceBEq, Int.reduceBNe, ty24, ty26, ty36, ty22, ty3, ty4, ty48, hd, cb, eqty24, eqty26]; (first | refine ⟨_, Sound_c k, ?_⟩)) | ((first | refine walkS_run1 [] rfl ?_ | refine walkD_run1 [] rfl ?_); simp (maxSteps := 2000000) (disch := omega) only [go_sem, ↓reduceIte, reduceCtorEq, Nat.reduceLT, Nat.reducePow, Nat.reduceLeDiff, Nat.reduceAdd, Nat.reduceMul, Nat.reduceSub, Nat.reduceEqDiff, Nat.reduceBEq, Int.reduceToNat, Int.reduceBEq, Int.reduceBNe, ty24, ty26, ty36, ty22, ty3, ty4, ty48, hd, cb, eqty24, eqty26]; (repeat (first | refine ⟨by omega, ?_⟩ | refine ⟨True.intro, ?_⟩)))))
  refine awp_ret ⟨_, ?_, rfl⟩; rw [Try.results64]; simp (disch := omega) only [ResVars, ResVar, ptrLoc, go_sem, ↓reduceIte, reduceCtorEq, Nat.reduceLT, Nat.reducePow, Nat.reduceLeDiff, Nat.reduceAdd, Nat.reduceMul, Nat.reduceSub, Nat.reduceEqDiff, Nat.reduceBEq, Int.reduceToNat, Int.reduceBEq, Int.reduceBNe, ty24, ty26, ty36, ty22, ty3, ty4, ty48, hd, cb, eqty24, eqty26]
def soundP (l : List Cube) : Bool := decide (l.length ≤ 200) && l.all Cube.sound
theorem any_not {α : Type} (p : α → Bool) (l : List α) : (l.any fun x => !p x) = !l.all p := by
  induction l with
  | nil => rfl
  | cons x l ih => simp only [List.any_cons, List.all_cons, ih, Bool.not_and]
theorem SoundP_c (l : List Cube) (hl : l.length ≤ 140737488355328) : ACalls Try.prog 40 [.d (.sl 4 l.length (rowC l))] (· = [.d (.v (.bool (soundP l)))]) := by
  have cf := ContainsFunc_c 64 [] (fun k => !k.sound) l hl (fun k _ => notSound_c k)
  rw [any_not] at cf
  unfold soundP
  by_cases h : l.length ≤ 200
  · rw [decide_eq_true h, Bool.true_and]
    refine acalls_of_awp Try.func40 rfl (by decide +kernel) (by rw [Try.ntmps40]; simp) ?_; rw [Try.ntmps40]; simp only [frOf]
    (repeat (first | refine awp_seq ?_ | refine awp_yes rfl ?_ | refine awp_no rfl ?_ | refine awp_block ?_ | (refine awp_region fun K hK => ?_) | (refine awp_draw (by kernel_rfl) (by kernel_rfl) fun K hK => ?_) | (refine awp_skip ?_; (first | show AWP _ _ _ _ _ | show loopQ _ _ _ _ _ _)) | (refine awp_exit ?_; (first | show AWP _ _ _ _ _ | show loopQ _ _ _ _ _ _)) | ((first | refine walkS_end (hK _ ?_) | refine walkD_end (hK _ _ (okTrace_spec (by kernel_rfl)) ?_)); clear hK K; (first | show AWP _ _ _ _ _ | show loopQ _ _ _ _ _ _)) | ((first | refine walkS_call3 rfl rfl rfl ?_ | refine walkD_call3 rfl rfl rfl ?_); simp (maxSteps := 2000000) (disch := omega) only [go_sem, ↓reduceIte, reduceCtorEq, Nat.reduceLT, Nat.reducePow, Nat.reduceLeDiff, Nat.reduceAdd, Nat.reduceMul, Nat.reduceSub, Nat.reduceEqDiff, Nat.reduceBEq, Int.reduceToNat, Int.reduceBEq, Int.reduceBNe, ty24, ty26, ty36, ty22, ty3, ty4, ty48, hd, cb, eqty24, eqty26]; (first | refine ⟨_, cf, ?_⟩)) | ((first | refine walkS_run1 [] rfl ?_ | refine walkD_run1 [] rfl ?_); simp (maxSteps := 2000000) (disch := omega) only [go_sem, ↓reduceIte, reduceCtorEq, Nat.reduceLT, Nat.reducePow, Nat.reduceLeDiff, Nat.reduceAdd, Nat.reduceMul, Nat.reduceSub, Nat.reduceEqDiff, Nat.reduceBEq, Int.reduceToNat, Int.reduceBEq, Int.reduceBNe, ty24, ty26, ty36, ty22, ty3, ty4, ty48, hd, cb, eqty24, eqty26]; (repeat (first | refine ⟨by omega, ?_⟩ | refine ⟨True.intro, ?_⟩)))))
    refine awp_ret ⟨_, ?_, rfl⟩; rw [Try.results40]; simp (disch := omega) only [ResVars, ResVar, ptrLoc, go_sem, ↓reduceIte, reduceCtorEq, Nat.reduceLT, Nat.reducePow, Nat.reduceLeDiff, Nat.reduceAdd, Nat.reduceMul, Nat.reduceSub, Nat.reduceEqDiff, Nat.reduceBEq, Int.reduceToNat, Int.reduceBEq, Int.reduceBNe, ty24, ty26, ty36, ty22, ty3, ty4, ty48, hd, cb, eqty24, eqty26]
    rw [Bool.not_not]
  · rw [decide_eq_false h, Bool.false_and]
    refine acalls_of_awp Try.func40 rfl (by decide +kernel) (by rw [Try.ntmps40]; simp) ?_; rw [Try.ntmps40]; simp only [frOf]
    (repeat (first | refine awp_seq ?_ | refine awp_yes rfl ?_ | refine awp_no rfl ?_ | refine awp_block ?_ | (refine awp_region fun K hK => ?_) | (refine awp_draw (by kernel_rfl) (by kernel_rfl) fun K hK => ?_) | (refine awp_skip ?_; (first | show AWP _ _ _ _ _ | show loopQ _ _ _ _ _ _)) | (refine awp_exit ?_; (first | show AWP _ _ _ _ _ | show loopQ _ _ _ _ _ _)) | ((first | refine walkS_end (hK _ ?_) | refine walkD_end (hK _ _ (okTrace_spec (by kernel_rfl)) ?_)); clear hK K; (first | show AWP _ _ _ _ _ | show loopQ _ _ _ _ _ _)) | ((first | refine walkS_call3 rfl rfl rfl ?_ | refine walkD_call3 rfl rfl rfl ?_); simp (maxSteps := 2000000) (disch := omega) only [go_sem, ↓reduceIte, reduceCtorEq, Nat.reduceLT, Nat.reducePow, Nat.reduceLeDiff, Nat.reduceAdd, Nat.reduceMul, Nat.reduceSub, Nat.reduceEqDiff, Nat.reduceBEq, Int.reduceToNat, Int.reduceBEq, Int.reduceBNe, ty24, ty26, ty36, ty22, ty3, ty4, ty48, hd, cb, eqty24, eqty26]; (first | refine ⟨_, cf, ?_⟩)) | ((first | refine walkS_run1 [] rfl ?_ | refine walkD_run1 [] rfl ?_); simp (maxSteps := 2000000) (disch := omega) only [go_sem, ↓reduceIte, reduceCtorEq, Nat.reduceLT, Nat.reducePow, Nat.reduceLeDiff, Nat.reduceAdd, Nat.reduceMul, Nat.reduceSub, Nat.reduceEqDiff, Nat.reduceBEq, Int.reduceToNat, Int.reduceBEq, Int.reduceBNe, ty24, ty26, ty36, ty22, ty3, ty4, ty48, hd, cb, eqty24, eqty26]; (repeat (first | refine ⟨by omega, ?_⟩ | refine ⟨True.intro, ?_⟩)))))
    refine awp_ret ⟨_, ?_, rfl⟩; rw [Try.results40]; simp (disch := omega) only [ResVars, ResVar, ptrLoc, go_sem, ↓reduceIte, reduceCtorEq, Nat.reduceLT, Nat.reducePow, Nat.reduceLeDiff, Nat.reduceAdd, Nat.reduceMul, Nat.reduceSub, Nat.reduceEqDiff, Nat.reduceBEq, Int.reduceToNat, Int.reduceBEq, Int.reduceBNe, ty24, ty26, ty36, ty22, ty3, ty4, ty48, hd, cb, eqty24, eqty26]
theorem has1_c (k : Cube) (h : BitVec 128) : ACalls Try.prog 65 [.agg (cb k), .d (.bx (hd h))] (· = [.d (.v (.bool (hasC k h)))]) := by
  refine acalls_of_awp Try.func65 rfl (by decide +kernel) (by rw [Try.ntmps65]; simp) ?_; rw [Try.ntmps65]; simp only [frOf]
  (repeat (first | refine awp_seq ?_ | refine awp_yes rfl ?_ | refine awp_no rfl ?_ | refine awp_block ?_ | (refine awp_region fun K hK => ?_) | (refine awp_draw (by kernel_rfl) (by kernel_rfl) fun K hK => ?_) | (refine awp_skip ?_; (first | show AWP _ _ _ _ _ | show loopQ _ _ _ _ _ _)) | (refine awp_exit ?_; (first | show AWP _ _ _ _ _ | show loopQ _ _ _ _ _ _)) | ((first | refine walkS_end (hK _ ?_) | refine walkD_end (hK _ _ (okTrace_spec (by kernel_rfl)) ?_)); clear hK K; (first | show AWP _ _ _ _ _ | show loopQ _ _ _ _ _ _)) | ((first | refine walkS_call3 rfl rfl rfl ?_ | refine walkD_call3 rfl rfl rfl ?_); simp (maxSteps := 2000000) (disch := omega) only [go_sem, ↓reduceIte, reduceCtorEq, Nat.reduceLT, Nat.reducePow, Nat.reduceLeDiff, Nat.reduceAdd, Nat.reduceMul, Nat.reduceSub, Nat.reduceEqDiff, Nat.reduceBEq, Int.reduceToNat, Int.reduceBEq, Int.reduceBNe, ty24, ty26, ty36, ty22, ty3, ty4, ty48, hd, cb, eqty24, eqty26]; (first | refine ⟨_, Has_c k h, ?_⟩)) | ((first | refine walkS_run1 [] rfl ?_ | refine walkD_run1 [] rfl ?_); simp (maxSteps := 2000000) (disch := omega) only [go_sem, ↓reduceIte, reduceCtorEq, Nat.reduceLT, Nat.reducePow, Nat.reduceLeDiff, Nat.reduceAdd, Nat.reduceMul, Nat.reduceSub, Nat.reduceEqDiff, Nat.reduceBEq, Int.reduceToNat, Int.reduceBEq, Int.reduceBNe, ty24, ty26, ty36, ty22, ty3, ty4, ty48, hd, cb, eqty24, eqty26]; (repeat (first | refine ⟨by omega, ?_⟩ | refine ⟨True.intro, ?_⟩)))))
  refine awp_ret ⟨_, ?_, rfl⟩; rw [Try.results65]; simp (disch := omega) only [ResVars, ResVar, ptrLoc, go_sem, ↓reduceIte, reduceCtorEq, Nat.reduceLT, Nat.reducePow, Nat.reduceLeDiff, Nat.reduceAdd, Nat.reduceMul, Nat.reduceSub, Nat.reduceEqDiff, Nat.reduceBEq, Int.reduceToNat, Int.reduceBEq, Int.reduceBNe, ty24, ty26, ty36, ty22, ty3, ty4, ty48, hd, cb, eqty24, eqty26]
def hasP (l : List Cube) (h : BitVec 128) : Bool := l.any (hasC · h)
theorem HasP_c (l : List Cube) (h : BitVec 128) (hl : l.length ≤ 140737488355328) : ACalls Try.prog 41 [.d (.sl 4 l.length (rowC l)), .agg (hd h)] (· = [.d (.v (.bool (hasP l h)))]) := by
  have cf := ContainsFunc_c 65 [.d (.bx (hd h))] (fun k => hasC k h) l hl (fun k _ => has1_c k h)
  unfold hd at cf
  refine acalls_of_awp Try.func41 rfl (by decide +kernel) (by rw [Try.ntmps41]; simp) ?_; rw [Try.ntmps41]; simp only [frOf]
  (repeat (first | refine awp_seq ?_ | refine awp_yes rfl ?_ | refine awp_no rfl ?_ | refine awp_block ?_ | (refine awp_region fun K hK => ?_) | (refine awp_draw (by kernel_rfl) (by kernel_rfl) fun K hK => ?_) | (refine awp_skip ?_; (first | show AWP _ _ _ _ _ | show loopQ _ _ _ _ _ _)) | (refine awp_exit ?_; (first | show AWP _ _ _ _ _ | show loopQ _ _ _ _ _ _)) | ((first | refine walkS_end (hK _ ?_) | refine walkD_end (hK _ _ (okTrace_spec (by kernel_rfl)) ?_)); clear hK K; (first | show AWP _ _ _ _ _ | show loopQ _ _ _ _ _ _)) | ((first | refine walkS_call3 rfl rfl rfl ?_ | refine walkD_call3 rfl rfl rfl ?_); simp (maxSteps := 2000000) (disch := omega) only [go_sem, ↓reduceIte, reduceCtorEq, Nat.reduceLT, Nat.reducePow, Nat.reduceLeDiff, Nat.reduceAdd, Nat.reduceMul, Nat.reduceSub, Nat.reduceEqDiff, Nat.reduceBEq, Int.reduceToNat, Int.reduceBEq, Int.reduceBNe, ty24, ty26, ty36, ty22, ty3, ty4, ty48, hd, cb, eqty24, eqty26]; (first | refine ⟨_, cf, ?_⟩)) | ((first | refine walkS_run1 [] rfl ?_ | refine walkD_run1 [] rfl ?_); simp (maxSteps := 2000000) (disch := omega) only [go_sem, ↓reduceIte, reduceCtorEq, Nat.reduceLT, Nat.reducePow, Nat.reduceLeDiff, Nat.reduceAdd, Nat.reduceMul, Nat.reduceSub, Nat.reduceEqDiff, Nat.reduceBEq, Int.reduceToNat, Int.reduceBEq, Int.reduceBNe, ty24, ty26, ty36, ty22, ty3, ty4, ty48, hd, cb, eqty24, eqty26]; (repeat (first | refine ⟨by omega, ?_⟩ | refine ⟨True.intro, ?_⟩)))))
  refine awp_ret ⟨_, ?_, rfl⟩; rw [Try.results41]; simp (disch := omega) only [ResVars, ResVar, ptrLoc, go_sem, ↓reduceIte, reduceCtorEq, Nat.reduceLT, Nat.reducePow, Nat.reduceLeDiff, Nat.reduceAdd, Nat.reduceMul, Nat.reduceSub, Nat.reduceEqDiff, Nat.reduceBEq, Int.reduceToNat, Int.reduceBEq, Int.reduceBNe, ty24, ty26, ty36, ty22, ty3, ty4, ty48, hd, cb, eqty24, eqty26]
  rfl
theorem Clip_c (n : Nat) (f : Nat → List Dat) (hn : n ≤ 140737488355328) : ACalls Try.prog 70 [.d (.sl 4 n f)] (· = [.d (.sl 4 n f)]) := by
  refine acalls_of_awp Try.func70 rfl (by decide +kernel) (by rw [Try.ntmps70]; simp) ?_; rw [Try.ntmps70]; simp only [frOf]
  (repeat (first | refine awp_seq ?_ | refine awp_yes rfl ?_ | refine awp_no rfl ?_ | refine awp_block ?_ | (refine awp_region fun K hK => ?_) | (refine awp_draw (by kernel_rfl) (by kernel_rfl) fun K hK => ?_) | (refine awp_skip ?_; (first | show AWP _ _ _ _ _ | show loopQ _ _ _ _ _ _)) | (refine awp_exit ?_; (first | show AWP _ _ _ _ _ | show loopQ _ _ _ _ _ _)) | ((first | refine walkS_end (hK _ ?_) | refine walkD_end (hK _ _ (okTrace_spec (by kernel_rfl)) ?_)); clear hK K; (first | show AWP _ _ _ _ _ | show loopQ _ _ _ _ _ _)) | ((first | refine walkS_run1 [] rfl ?_ | refine walkD_run1 [] rfl ?_); simp (maxSteps := 2000000) (disch := omega) only [go_sem, ↓reduceIte, reduceCtorEq, Nat.reduceLT, Nat.reducePow, Nat.reduceLeDiff, Nat.reduceAdd, Nat.reduceMul, Nat.reduceSub, Nat.reduceEqDiff, Nat.reduceBEq, Int.reduceToNat, Int.reduceBEq, Int.reduceBNe, ty24, ty26, ty36, ty22, ty3, ty4, ty48, hd, cb, eqty24, eqty26]; (repeat (first | refine ⟨by omega, ?_⟩ | refine ⟨True.intro, ?_⟩)))))
  refine awp_ret ⟨_, ?_, rfl⟩; rw [Try.results70]; simp (disch := omega) only [ResVars, ResVar, ptrLoc, go_sem, ↓reduceIte, reduceCtorEq, Nat.reduceLT, Nat.reducePow, Nat.reduceLeDiff, Nat.reduceAdd, Nat.reduceMul, Nat.reduceSub, Nat.reduceEqDiff, Nat.reduceBEq, Int.reduceToNat, Int.reduceBEq, Int.reduceBNe, ty24, ty26, ty36, ty22, ty3, ty4, ty48, hd, cb, eqty24, eqty26]
  rfl
def pickP (l : List Cube) : Option Cube := l.find? Cube.sound
theorem idxF_find {α : Type} (p : α → Bool) (z : α) : ∀ (l : List α) (k : Nat), (l.find? p = none ∧ idxF p l k = -1) ∨ ∃ j x, l.find? p = some x ∧ idxF p l k = ((k + j : Nat) : Int) ∧ j < l.length ∧ l.getD j z = x
  | [], k => .inl ⟨rfl, rfl⟩
  | x :: r, k => by
    unfold idxF
    cases h : p x
    · simp only [Bool.false_eq_true, if_false, List.find?_cons, h]
      rcases idxF_find p z r (k + 1) with h | ⟨j, y, h1, h2, h3, h4⟩
      · exact .inl h
      · exact .inr ⟨j + 1, y, h1, by rw [h2]; congr 1; omega, by simp; omega, by simpa using h4⟩
    · simp only [if_true, List.find?_cons, h]
      exact .inr ⟨0, x, rfl, rfl, by simp, rfl⟩
theorem Pick_c (l : List Cube) (hl : l.length ≤ 140737488355328) : ACalls Try.prog 38 [.d (.sl 4 l.length (rowC l))] (· = [.agg (hd ((pickP l).getD ⟨0, 0⟩).v), .d (.v (.bool (pickP l).isSome))]) := by
  have ix := IndexFunc_c 17 [] Cube.sound l hl (fun k _ => Sound_c k)
  unfold pickP
  rcases idxF_find Cube.sound ⟨0, 0⟩ l 0 with ⟨h1, h2⟩ | ⟨j, x, h1, h2, h3, h4⟩
  · rw [h2] at ix
    rw [h1]
    refine acalls_of_awp Try.func38 rfl (by decide +kernel) (by rw [Try.ntmps38]; simp) ?_; rw [Try.ntmps38]; simp only [frOf]
    (repeat (first | refine awp_seq ?_ | refine awp_yes rfl ?_ | refine awp_no rfl ?_ | refine awp_block ?_ | (refine awp_region fun K hK => ?_) | (refine awp_draw (by kernel_rfl) (by kernel_rfl) fun K hK => ?_) | (refine awp_skip ?_; (first | show AWP _ _ _ _ _ | show loopQ _ _ _ _ _ _)) | (refine awp_exit ?_; (first | show AWP _ _ _ _ _ | show loopQ _ _ _ _ _ _)) | ((first | refine walkS_end (hK _ ?_) | refine walkD_end (hK _ _ (okTrace_spec (by kernel_rfl)) ?_)); clear hK K; (first | show AWP _ _ _ _ _ | show loopQ _ _ _ _ _ _)) | ((first | refine walkS_call3 rfl rfl rfl ?_ | refine walkD_call3 rfl rfl rfl ?_); simp (maxSteps := 2000000) (disch := omega) only [go_sem, ↓reduceIte, reduceCtorEq, Nat.reduceLT, Nat.reducePow, Nat.reduceLeDiff, Nat.reduceAdd, Nat.reduceMul, Nat.reduceSub, Nat.reduceEqDiff, Nat.reduceBEq, Int.reduceToNat, Int.reduceBEq, Int.reduceBNe, ty24, ty26, ty36, ty22, ty3, ty4, ty48, hd, cb, eqty24, eqty26]; (first | refine ⟨_, ix, ?_⟩)) | ((first | refine walkS_run1 [] rfl ?_ | refine walkD_run1 [] rfl ?_); simp (maxSteps := 2000000) (disch := omega) only [go_sem, ↓reduceIte, reduceCtorEq, Nat.reduceLT, Nat.reducePow, Nat.reduceLeDiff, Nat.reduceAdd, Nat.reduceMul, Nat.reduceSub, Nat.reduceEqDiff, Nat.reduceBEq, Int.reduceToNat, Int.reduceBEq, Int.reduceBNe, ty24, ty26, ty36, ty22, ty3, ty4, ty48, hd, cb, eqty24, eqty26]; (repeat (first | refine ⟨by omega, ?_⟩ | refine ⟨True.intro, ?_⟩)))))
    refine awp_ret ⟨_, ?_, rfl⟩; rw [Try.results38]; simp (disch := omega) only [ResVars, ResVar, ptrLoc, go_sem, ↓reduceIte, reduceCtorEq, Nat.reduceLT, Nat.reducePow, Nat.reduceLeDiff, Nat.reduceAdd, Nat.reduceMul, Nat.reduceSub, Nat.reduceEqDiff, Nat.reduceBEq, Int.reduceToNat, Int.reduceBEq, Int.reduceBNe, ty24, ty26, ty36, ty22, ty3, ty4, ty48, hd, cb, eqty24, eqty26]
    simp only [hi_zero, lo_zero]
  · rw [h2, Nat.zero_add] at ix
    rw [h1]
    have r1 := rowC_at l j
    rw [h4] at r1
    refine acalls_of_awp Try.func38 rfl (by decide +kernel) (by rw [Try.ntmps38]; simp) ?_; rw [Try.ntmps38]; simp only [frOf]
    (repeat (first | refine awp_seq ?_ | refine awp_yes rfl ?_ | refine awp_no rfl ?_ | refine awp_block ?_ | (refine awp_region fun K hK => ?_) | (refine awp_draw (by kernel_rfl) (by kernel_rfl) fun K hK => ?_) | (refine awp_skip ?_; (first | show AWP _ _ _ _ _ | show loopQ _ _ _ _ _ _)) | (refine awp_exit ?_; (first | show AWP _ _ _ _ _ | show loopQ _ _ _ _ _ _)) | ((first | refine walkS_end (hK _ ?_) | refine walkD_end (hK _ _ (okTrace_spec (by kernel_rfl)) ?_)); clear hK K; (first | show AWP _ _ _ _ _ | show loopQ _ _ _ _ _ _)) | ((first | refine walkS_call3 rfl rfl rfl ?_ | refine walkD_call3 rfl rfl rfl ?_); simp (maxSteps := 2000000) (disch := omega) only [go_sem, ↓reduceIte, reduceCtorEq, Nat.reduceLT, Nat.reducePow, Nat.reduceLeDiff, Nat.reduceAdd, Nat.reduceMul, Nat.reduceSub, Nat.reduceEqDiff, Nat.reduceBEq, Int.reduceToNat, Int.reduceBEq, Int.reduceBNe, ty24, ty26, ty36, ty22, ty3, ty4, ty48, hd, cb, eqty24, eqty26, r1]; (first | refine ⟨_, ix, ?_⟩)) | ((first | refine walkS_run1 [] rfl ?_ | refine walkD_run1 [] rfl ?_); simp (maxSteps := 2000000) (disch := omega) only [go_sem, ↓reduceIte, reduceCtorEq, Nat.reduceLT, Nat.reducePow, Nat.reduceLeDiff, Nat.reduceAdd, Nat.reduceMul, Nat.reduceSub, Nat.reduceEqDiff, Nat.reduceBEq, Int.reduceToNat, Int.reduceBEq, Int.reduceBNe, ty24, ty26, ty36, ty22, ty3, ty4, ty48, hd, cb, eqty24, eqty26, r1]; (repeat (first | refine ⟨by omega, ?_⟩ | refine ⟨True.intro, ?_⟩)))))
    refine awp_ret ⟨_, ?_, rfl⟩; rw [Try.results38]; simp (disch := omega) only [ResVars, ResVar, ptrLoc, go_sem, ↓reduceIte, reduceCtorEq, Nat.reduceLT, Nat.reducePow, Nat.reduceLeDiff, Nat.reduceAdd, Nat.reduceMul, Nat.reduceSub, Nat.reduceEqDiff, Nat.reduceBEq, Int.reduceToNat, Int.reduceBEq, Int.reduceBNe, ty24, ty26, ty36, ty22, ty3, ty4, ty48, hd, cb, eqty24, eqty26, r1]
/-- is a cube not needed, beside one of the others? -/
def spareBy (l : List Cube) (n i : Nat) : Bool := i != n && (withinC (l.getD n ⟨0, 0⟩) (l.getD i ⟨0, 0⟩) && (l.getD n ⟨0, 0⟩ != l.getD i ⟨0, 0⟩ || decide (i < n)))
def spareP (l : List Cube) (n : Nat) : Bool := (List.range l.length).any (spareBy l n) || !(l.getD n ⟨0, 0⟩).sound
theorem eqI_cb (a b : Cube) : eqI [hi a.v, lo a.v, hi a.c, lo a.c] [hi b.v, lo b.v, hi b.c, lo b.c] = (a == b) := by
  have h1 := eqI_hd a.v b.v
  have h2 := eqI_hd a.c b.c
  simp only [eqI, Bool.and_true] at h1 h2 ⊢
  rw [← Bool.and_assoc, h1, h2]
  cases a; cases b
  rw [Bool.eq_iff_iff]
  simp
def spareI (l : List Cube) (n : Nat) (s : {i : Nat // i ≤ l.length ∧ ∀ j, j < i → spareBy l n j = false}) : ASt :=
  ⟨[(9, .p (.d (.v (.int .i64 (s.val : Int))))), (8, .p (.d (.v (.int .i64 (l.length : Int))))), (7, .p (.d (.sl 4 l.length (rowC l)))), (1, .p (.d (.v (.int .i64 (n : Int))))), (0, .p (.d (.sl 4 l.length (rowC l))))], []⟩
set_option maxRecDepth 100000 in
set_option maxHeartbeats 1000000 in
theorem spare_c (l : List Cube) (n : Nat) (hl : l.length ≤ 140737488355328) (hn : n < l.length) : ACalls Try.prog 66 [.d (.sl 4 l.length (rowC l)), .d (.v (.int .i64 (n : Int)))] (· = [.d (.v (.bool (spareP l n)))]) := by
  have rn := rowC_at l n
  obtain ⟨N, hN⟩ : ∃ N, l.getD n ⟨0, 0⟩ = N := ⟨_, rfl⟩
  rw [hN] at rn
  refine acalls_of_awp Try.func66 rfl (by decide +kernel) (by rw [Try.ntmps66]; simp) ?_; rw [Try.ntmps66]; simp only [frOf]
  (repeat (first | refine awp_seq ?_ | refine awp_yes rfl ?_ | refine awp_no rfl ?_ | refine awp_block ?_ | (refine awp_region fun K hK => ?_) | (refine awp_draw (by kernel_rfl) (by kernel_rfl) fun K hK => ?_) | (refine awp_skip ?_; (first | show AWP _ _ _ _ _ | show loopQ _ _ _ _ _ _)) | (refine awp_exit ?_; (first | show AWP _ _ _ _ _ | show loopQ _ _ _ _ _ _)) | ((first | refine walkS_end (hK _ ?_) | refine walkD_end (hK _ _ (okTrace_spec (by kernel_rfl)) ?_)); clear hK K; (first | show AWP _ _ _ _ _ | show loopQ _ _ _ _ _ _)) | ((first | refine walkS_run1 [] rfl ?_ | refine walkD_run1 [] rfl ?_); simp (maxSteps := 2000000) (disch := omega) only [go_sem, ↓reduceIte, reduceCtorEq, Nat.reduceLT, Nat.reducePow, Nat.reduceLeDiff, Nat.reduceAdd, Nat.reduceMul, Nat.reduceSub, Nat.reduceEqDiff, Nat.reduceBEq, Int.reduceToNat, Int.reduceBEq, Int.reduceBNe, ty24, ty26, ty36, ty22, ty3, ty4, ty48, hd, cb, eqty24, eqty26]; (repeat (first | refine ⟨by omega, ?_⟩ | refine ⟨True.intro, ?_⟩)))))
  refine awp_loop (spareI l n) (fun s => l.length - s.val) ⟨0, by omega, fun j hj => by omega⟩ ?_ (fun s => ?_)
  · unfold spareI
    refine Weak.list ?_ ?_; (all_goals simp (disch := omega) only [AllF, AllL, le_self, le_top, lle_self, exists_eq_left', Option.some.injEq, go_sem, ↓reduceIte, reduceCtorEq, Nat.reduceLT, Nat.reducePow, Nat.reduceLeDiff, Nat.reduceAdd, Nat.reduceMul, Nat.reduceSub, Nat.reduceEqDiff, Nat.reduceBEq, Int.reduceToNat, Int.reduceBEq, Int.reduceBNe, ty24, ty26, ty36, ty22, ty3, ty4, ty48, hd, cb, eqty24, eqty26]); (all_goals (repeat' (with_reducible apply And.intro))); (all_goals try (first | exact le_eq rfl | (refine le_int ?_; omega) | (refine le_eq ?_; simp; done)))
  obtain ⟨i, hi, he⟩ := s
  unfold spareI
  by_cases hlt : i < l.length
  · have ri := rowC_at l i
    have sp : spareBy l n i = (i != n && (withinC N (l.getD i ⟨0, 0⟩) && (N != l.getD i ⟨0, 0⟩ || decide (i < n)))) := by unfold spareBy; rw [hN]
    have step : spareBy l n i = false → ∀ j, j < i + 1 → spareBy l n j = false := fun h j hj => by
      by_cases e : j = i
      · subst e; exact h
      · exact he j (by omega)
    have stop : spareBy l n i = true → spareP l n = true := fun h => by
      unfold spareP
      rw [List.any_eq_true.2 ⟨i, List.mem_range.2 hlt, h⟩]; rfl
    generalize l.getD i ⟨0, 0⟩ = K at ri sp
    have wc := Within_c N K
    by_cases hin : i = n
    · have h0 : spareBy l n i = false := by rw [sp, hin]; simp
      have q : ((i : Int) != (n : Int)) = false := by simp [hin]
      (repeat (first | refine awp_seq ?_ | refine awp_yes rfl ?_ | refine awp_no rfl ?_ | refine awp_block ?_ | (refine awp_region fun K hK => ?_) | (refine awp_draw (by kernel_rfl) (by kernel_rfl) fun K hK => ?_) | (refine awp_skip ?_; (first | show AWP _ _ _ _ _ | show loopQ _ _ _ _ _ _)) | (refine awp_exit ?_; (first | show AWP _ _ _ _ _ | show loopQ _ _ _ _ _ _)) | ((first | refine walkS_end (hK _ ?_) | refine walkD_end (hK _ _ (okTrace_spec (by kernel_rfl)) ?_)); clear hK K; (first | show AWP _ _ _ _ _ | show loopQ _ _ _ _ _ _)) | ((first | refine walkS_call3 rfl rfl rfl ?_ | refine walkD_call3 rfl rfl rfl ?_); simp (maxSteps := 2000000) (disch := omega) only [go_sem, ↓reduceIte, reduceCtorEq, Nat.reduceLT, Nat.reducePow, Nat.reduceLeDiff, Nat.reduceAdd, Nat.reduceMul, Nat.reduceSub, Nat.reduceEqDiff, Nat.reduceBEq, Int.reduceToNat, Int.reduceBEq, Int.reduceBNe, ty24, ty26, ty36, ty22, ty3, ty4, ty48, hd, cb, eqty24, eqty26, rn, ri, q]; (first | refine ⟨_, wc, ?_⟩)) | ((first | refine walkS_run1 [] rfl ?_ | refine walkD_run1 [] rfl ?_); simp (maxSteps := 2000000) (disch := omega) only [go_sem, ↓reduceIte, reduceCtorEq, Nat.reduceLT, Nat.reducePow, Nat.reduceLeDiff, Nat.reduceAdd, Nat.reduceMul, Nat.reduceSub, Nat.reduceEqDiff, Nat.reduceBEq, Int.reduceToNat, Int.reduceBEq, Int.reduceBNe, ty24, ty26, ty36, ty22, ty3, ty4, ty48, hd, cb, eqty24, eqty26, rn, ri, q]; (repeat (first | refine ⟨by omega, ?_⟩ | refine ⟨True.intro, ?_⟩)))))
      refine ⟨⟨i + 1, by omega, step h0⟩, by simp only []; omega, ?_⟩
      refine Weak.list ?_ ?_; (all_goals simp (disch := omega) only [AllF, AllL, le_self, le_top, lle_self, exists_eq_left', Option.some.injEq, go_sem, ↓reduceIte, reduceCtorEq, Nat.reduceLT, Nat.reducePow, Nat.reduceLeDiff, Nat.reduceAdd, Nat.reduceMul, Nat.reduceSub, Nat.reduceEqDiff, Nat.reduceBEq, Int.reduceToNat, Int.reduceBEq, Int.reduceBNe, ty24, ty26, ty36, ty22, ty3, ty4, ty48, hd, cb, eqty24, eqty26, rn, ri, q]); (all_goals (repeat' (with_reducible apply And.intro))); (all_goals try (first | exact le_eq rfl | (refine le_int ?_; omega) | (refine le_eq ?_; simp; done)))
    · have q : ((i : Int) != (n : Int)) = true := by simp; omega
      have q2 : (i != n) = true := by simpa using hin
      rw [q2, Bool.true_and] at sp
      cases hw : withinC N K
      · rw [hw] at wc sp
        (repeat (first | refine awp_seq ?_ | refine awp_yes rfl ?_ | refine awp_no rfl ?_ | refine awp_block ?_ | (refine awp_region fun K hK => ?_) | (refine awp_draw (by kernel_rfl) (by kernel_rfl) fun K hK => ?_) | (refine awp_skip ?_; (first | show AWP _ _ _ _ _ | show loopQ _ _ _ _ _ _)) | (refine awp_exit ?_; (first | show AWP _ _ _ _ _ | show loopQ _ _ _ _ _ _)) | ((first | refine walkS_end (hK _ ?_) | refine walkD_end (hK _ _ (okTrace_spec (by kernel_rfl)) ?_)); clear hK K; (first | show AWP _ _ _ _ _ | show loopQ _ _ _ _ _ _)) | ((first | refine walkS_call3 rfl rfl rfl ?_ | refine walkD_call3 rfl rfl rfl ?_); simp (maxSteps := 2000000) (disch := omega) only [go_sem, ↓reduceIte, reduceCtorEq, Nat.reduceLT, Nat.reducePow, Nat.reduceLeDiff, Nat.reduceAdd, Nat.reduceMul, Nat.reduceSub, Nat.reduceEqDiff, Nat.reduceBEq, Int.reduceToNat, Int.reduceBEq, Int.reduceBNe, ty24, ty26, ty36, ty22, ty3, ty4, ty48, hd, cb, eqty24, eqty26, rn, ri, q]; (first | refine ⟨_, wc, ?_⟩)) | ((first | refine walkS_run1 [] rfl ?_ | refine walkD_run1 [] rfl ?_); simp (maxSteps := 2000000) (disch := omega) only [go_sem, ↓reduceIte, reduceCtorEq, Nat.reduceLT, Nat.reducePow, Nat.reduceLeDiff, Nat.reduceAdd, Nat.reduceMul, Nat.reduceSub, Nat.reduceEqDiff, Nat.reduceBEq, Int.reduceToNat, Int.reduceBEq, Int.reduceBNe, ty24, ty26, ty36, ty22, ty3, ty4, ty48, hd, cb, eqty24, eqty26, rn, ri, q]; (repeat (first | refine ⟨by omega, ?_⟩ | refine ⟨True.intro, ?_⟩)))))
        refine ⟨⟨i + 1, by omega, step sp⟩, by simp only []; omega, ?_⟩
        refine Weak.list ?_ ?_; (all_goals simp (disch := omega) only [AllF, AllL, le_self, le_top, lle_self, exists_eq_left', Option.some.injEq, go_sem, ↓reduceIte, reduceCtorEq, Nat.reduceLT, Nat.reducePow, Nat.reduceLeDiff, Nat.reduceAdd, Nat.reduceMul, Nat.reduceSub, Nat.reduceEqDiff, Nat.reduceBEq, Int.reduceToNat, Int.reduceBEq, Int.reduceBNe, ty24, ty26, ty36, ty22, ty3, ty4, ty48, hd, cb, eqty24, eqty26, rn, ri, q]); (all_goals (repeat' (with_reducible apply And.intro))); (all_goals try (first | exact le_eq rfl | (refine le_int ?_; omega) | (refine le_eq ?_; simp; done)))
      · rw [hw, Bool.true_and] at sp
        rw [hw] at wc
        have eq := eqI_cb N K
        have nb : (N != K) = !(N == K) := rfl
        rw [nb] at sp
        cases hq : (N == K)
        · rw [hq] at eq sp
          (repeat (first | refine awp_seq ?_ | refine awp_yes rfl ?_ | refine awp_no rfl ?_ | refine awp_block ?_ | (refine awp_region fun K hK => ?_) | (refine awp_draw (by kernel_rfl) (by kernel_rfl) fun K hK => ?_) | (refine awp_skip ?_; (first | show AWP _ _ _ _ _ | show loopQ _ _ _ _ _ _)) | (refine awp_exit ?_; (first | show AWP _ _ _ _ _ | show loopQ _ _ _ _ _ _)) | ((first | refine walkS_end (hK _ ?_) | refine walkD_end (hK _ _ (okTrace_spec (by kernel_rfl)) ?_)); clear hK K; (first | show AWP _ _ _ _ _ | show loopQ _ _ _ _ _ _)) | ((first | refine walkS_call3 rfl rfl rfl ?_ | refine walkD_call3 rfl rfl rfl ?_); simp (maxSteps := 2000000) (disch := omega) only [go_sem, ↓reduceIte, reduceCtorEq, Nat.reduceLT, Nat.reducePow, Nat.reduceLeDiff, Nat.reduceAdd, Nat.reduceMul, Nat.reduceSub, Nat.reduceEqDiff, Nat.reduceBEq, Int.reduceToNat, Int.reduceBEq, Int.reduceBNe, ty24, ty26, ty36, ty22, ty3, ty4, ty48, hd, cb, eqty24, eqty26, rn, ri, q, eq]; (first | refine ⟨_, wc, ?_⟩)) | ((first | refine walkS_run1 [] rfl ?_ | refine walkD_run1 [] rfl ?_); simp (maxSteps := 2000000) (disch := omega) only [go_sem, ↓reduceIte, reduceCtorEq, Nat.reduceLT, Nat.reducePow, Nat.reduceLeDiff, Nat.reduceAdd, Nat.reduceMul, Nat.reduceSub, Nat.reduceEqDiff, Nat.reduceBEq, Int.reduceToNat, Int.reduceBEq, Int.reduceBNe, ty24, ty26, ty36, ty22, ty3, ty4, ty48, hd, cb, eqty24, eqty26, rn, ri, q, eq]; (repeat (first | refine ⟨by omega, ?_⟩ | refine ⟨True.intro, ?_⟩)))))
          rw [stop sp]
          refine awp_ret ⟨_, ?_, rfl⟩; rw [Try.results66]; simp (disch := omega) only [ResVars, ResVar, ptrLoc, go_sem, ↓reduceIte, reduceCtorEq, Nat.reduceLT, Nat.reducePow, Nat.reduceLeDiff, Nat.reduceAdd, Nat.reduceMul, Nat.reduceSub, Nat.reduceEqDiff, Nat.reduceBEq, Int.reduceToNat, Int.reduceBEq, Int.reduceBNe, ty24, ty26, ty36, ty22, ty3, ty4, ty48, hd, cb, eqty24, eqty26, rn, ri, q, eq]
        · rw [hq] at eq sp
          by_cases hl2 : i < n
          · rw [decide_eq_true hl2] at sp
            (repeat (first | refine awp_seq ?_ | refine awp_yes rfl ?_ | refine awp_no rfl ?_ | refine awp_block ?_ | (refine awp_region fun K hK => ?_) | (refine awp_draw (by kernel_rfl) (by kernel_rfl) fun K hK => ?_) | (refine awp_skip ?_; (first | show AWP _ _ _ _ _ | show loopQ _ _ _ _ _ _)) | (refine awp_exit ?_; (first | show AWP _ _ _ _ _ | show loopQ _ _ _ _ _ _)) | ((first | refine walkS_end (hK _ ?_) | refine walkD_end (hK _ _ (okTrace_spec (by kernel_rfl)) ?_)); clear hK K; (first | show AWP _ _ _ _ _ | show loopQ _ _ _ _ _ _)) | ((first | refine walkS_call3 rfl rfl rfl ?_ | refine walkD_call3 rfl rfl rfl ?_); simp (maxSteps := 2000000) (disch := omega) only [go_sem, ↓reduceIte, reduceCtorEq, Nat.reduceLT, Nat.reducePow, Nat.reduceLeDiff, Nat.reduceAdd, Nat.reduceMul, Nat.reduceSub, Nat.reduceEqDiff, Nat.reduceBEq, Int.reduceToNat, Int.reduceBEq, Int.reduceBNe, ty24, ty26, ty36, ty22, ty3, ty4, ty48, hd, cb, eqty24, eqty26, rn, ri, q, eq]; (first | refine ⟨_, wc, ?_⟩)) | ((first | refine walkS_run1 [] rfl ?_ | refine walkD_run1 [] rfl ?_); simp (maxSteps := 2000000) (disch := omega) only [go_sem, ↓reduceIte, reduceCtorEq, Nat.reduceLT, Nat.reducePow, Nat.reduceLeDiff, Nat.reduceAdd, Nat.reduceMul, Nat.reduceSub, Nat.reduceEqDiff, Nat.reduceBEq, Int.reduceToNat, Int.reduceBEq, Int.reduceBNe, ty24, ty26, ty36, ty22, ty3, ty4, ty48, hd, cb, eqty24, eqty26, rn, ri, q, eq]; (repeat (first | refine ⟨by omega, ?_⟩ | refine ⟨True.intro, ?_⟩)))))
            rw [stop sp]
            refine awp_ret ⟨_, ?_, rfl⟩; rw [Try.results66]; simp (disch := omega) only [ResVars, ResVar, ptrLoc, go_sem, ↓reduceIte, reduceCtorEq, Nat.reduceLT, Nat.reducePow, Nat.reduceLeDiff, Nat.reduceAdd, Nat.reduceMul, Nat.reduceSub, Nat.reduceEqDiff, Nat.reduceBEq, Int.reduceToNat, Int.reduceBEq, Int.reduceBNe, ty24, ty26, ty36, ty22, ty3, ty4, ty48, hd, cb, eqty24, eqty26, rn, ri, q, eq]
          · rw [decide_eq_false hl2] at sp
            (repeat (first | refine awp_seq ?_ | refine awp_yes rfl ?_ | refine awp_no rfl ?_ | refine awp_block ?_ | (refine awp_region fun K hK => ?_) | (refine awp_draw (by kernel_rfl) (by kernel_rfl) fun K hK => ?_) | (refine awp_skip ?_; (first | show AWP _ _ _ _ _ | show loopQ _ _ _ _ _ _)) | (refine awp_exit ?_; (first | show AWP _ _ _ _ _ | show loopQ _ _ _ _ _ _)) | ((first | refine walkS_end (hK _ ?_) | refine walkD_end (hK _ _ (okTrace_spec (by kernel_rfl)) ?_)); clear hK K; (first | show AWP _ _ _ _ _ | show loopQ _ _ _ _ _ _)) | ((first | refine walkS_call3 rfl rfl rfl ?_ | refine walkD_call3 rfl rfl rfl ?_); simp (maxSteps := 2000000) (disch := omega) only [go_sem, ↓reduceIte, reduceCtorEq, Nat.reduceLT, Nat.reducePow, Nat.reduceLeDiff, Nat.reduceAdd, Nat.reduceMul, Nat.reduceSub, Nat.reduceEqDiff, Nat.reduceBEq, Int.reduceToNat, Int.reduceBEq, Int.reduceBNe, ty24, ty26, ty36, ty22, ty3, ty4, ty48, hd, cb, eqty24, eqty26, rn, ri, q, eq]; (first | refine ⟨_, wc, ?_⟩)) | ((first | refine walkS_run1 [] rfl ?_ | refine walkD_run1 [] rfl ?_); simp (maxSteps := 2000000) (disch := omega) only [go_sem, ↓reduceIte, reduceCtorEq, Nat.reduceLT, Nat.reducePow, Nat.reduceLeDiff, Nat.reduceAdd, Nat.reduceMul, Nat.reduceSub, Nat.reduceEqDiff, Nat.reduceBEq, Int.reduceToNat, Int.reduceBEq, Int.reduceBNe, ty24, ty26, ty36, ty22, ty3, ty4, ty48, hd, cb, eqty24, eqty26, rn, ri, q, eq]; (repeat (first | refine ⟨by omega, ?_⟩ | refine ⟨True.intro, ?_⟩)))))
            refine ⟨⟨i + 1, by omega, step sp⟩, by simp only []; omega, ?_⟩
            refine Weak.list ?_ ?_; (all_goals simp (disch := omega) only [AllF, AllL, le_self, le_top, lle_self, exists_eq_left', Option.some.injEq, go_sem, ↓reduceIte, reduceCtorEq, Nat.reduceLT, Nat.reducePow, Nat.reduceLeDiff, Nat.reduceAdd, Nat.reduceMul, Nat.reduceSub, Nat.reduceEqDiff, Nat.reduceBEq, Int.reduceToNat, Int.reduceBEq, Int.reduceBNe, ty24, ty26, ty36, ty22, ty3, ty4, ty48, hd, cb, eqty24, eqty26, rn, ri, q, eq]); (all_goals (repeat' (with_reducible apply And.intro))); (all_goals try (first | exact le_eq rfl | (refine le_int ?_; omega) | (refine le_eq ?_; simp; done)))
  · have : i = l.length := by omega
    subst this
    have h0 : (List.range l.length).any (spareBy l n) = false := by
      rw [List.any_eq_false]
      intro j hj
      rw [he j (List.mem_range.1 hj)]; simp
    have sd := Sound_c N
    (repeat (first | refine awp_seq ?_ | refine awp_yes rfl ?_ | refine awp_no rfl ?_ | refine awp_block ?_ | (refine awp_region fun K hK => ?_) | (refine awp_draw (by kernel_rfl) (by kernel_rfl) fun K hK => ?_) | (refine awp_skip ?_; (first | show AWP _ _ _ _ _ | show loopQ _ _ _ _ _ _)) | (refine awp_exit ?_; (first | show AWP _ _ _ _ _ | show loopQ _ _ _ _ _ _)) | ((first | refine walkS_end (hK _ ?_) | refine walkD_end (hK _ _ (okTrace_spec (by kernel_rfl)) ?_)); clear hK K; (first | show AWP _ _ _ _ _ | show loopQ _ _ _ _ _ _)) | ((first | refine walkS_call3 rfl rfl rfl ?_ | refine walkD_call3 rfl rfl rfl ?_); simp (maxSteps := 2000000) (disch := omega) only [go_sem, ↓reduceIte, reduceCtorEq, Nat.reduceLT, Nat.reducePow, Nat.reduceLeDiff, Nat.reduceAdd, Nat.reduceMul, Nat.reduceSub, Nat.reduceEqDiff, Nat.reduceBEq, Int.reduceToNat, Int.reduceBEq, Int.reduceBNe, ty24, ty26, ty36, ty22, ty3, ty4, ty48, hd, cb, eqty24, eqty26, rn]; (first | refine ⟨_, sd, ?_⟩)) | ((first | refine walkS_run1 [] rfl ?_ | refine walkD_run1 [] rfl ?_); simp (maxSteps := 2000000) (disch := omega) only [go_sem, ↓reduceIte, reduceCtorEq, Nat.reduceLT, Nat.reducePow, Nat.reduceLeDiff, Nat.reduceAdd, Nat.reduceMul, Nat.reduceSub, Nat.reduceEqDiff, Nat.reduceBEq, Int.reduceToNat, Int.reduceBEq, Int.reduceBNe, ty24, ty26, ty36, ty22, ty3, ty4, ty48, hd, cb, eqty24, eqty26, rn]; (repeat (first | refine ⟨by omega, ?_⟩ | refine ⟨True.intro, ?_⟩)))))
    refine awp_ret ⟨_, ?_, rfl⟩; rw [Try.results66]; simp (disch := omega) only [ResVars, ResVar, ptrLoc, go_sem, ↓reduceIte, reduceCtorEq, Nat.reduceLT, Nat.reducePow, Nat.reduceLeDiff, Nat.reduceAdd, Nat.reduceMul, Nat.reduceSub, Nat.reduceEqDiff, Nat.reduceBEq, Int.reduceToNat, Int.reduceBEq, Int.reduceBNe, ty24, ty26, ty36, ty22, ty3, ty4, ty48, hd, cb, eqty24, eqty26, rn]
    unfold spareP
    rw [h0, Bool.false_or, hN]
/-- an empty slice, of whatever make -/
theorem acalls_empty {P : Program} {f : FuncId} {sz : Nat} {g : Nat → List Dat} {xs : List PV} {Q : List PV → Prop} (h : ∀ a c, ACalls P f (.d (.v (.slice a 0 c)) :: xs) Q) : ACalls P f (.d (.sl sz 0 g) :: xs) Q := by
  refine acalls_iff.2 fun w gg vs hz hr => ?_
  obtain ⟨v, vs', rfl, h0, ht⟩ := RelPs.cons_inv hr
  have : ∃ a c, v = .slice a 0 c := by
    cases h0 with
    | d _ _ h0 =>
      cases h0 with
      | sl0 a c => exact ⟨a, c, rfl⟩
      | sl b off _ c => exact ⟨_, c, rfl⟩
  obtain ⟨a, c, rfl⟩ := this
  exact acalls_iff.1 (h a c) w gg _ hz (.cons (.d _ _ (.v _ rfl)) ht)
theorem le_emp {a : Option Addr} {c sz : Nat} {f : Nat → List Dat} : Le (.p (.d (.v (.slice a 0 c)))) (.p (.d (.sl sz 0 f))) := by
  intro w h v r
  have := relA_v r
  subst this
  exact .d _ _ (.sl0 _ _ _ _)
theorem Clone_c (l : List Cube) (hl : l.length ≤ 1099511627776) : ACalls Try.prog 68 [.d (.sl 4 l.length (rowC l))] (· = [.d (.sl 4 l.length (rowC l))]) := by
  by_cases h : l.length = 0
  · rw [h]
    refine acalls_empty fun a c => ?_
    cases a with
    | none =>
      refine acalls_of_awp Try.func68 rfl (by decide +kernel) (by rw [Try.ntmps68]; simp) ?_; rw [Try.ntmps68]; simp only [frOf]
      (repeat (first | refine awp_seq ?_ | refine awp_yes rfl ?_ | refine awp_no rfl ?_ | refine awp_block ?_ | (refine awp_region fun K hK => ?_) | (refine awp_draw (by kernel_rfl) (by kernel_rfl) fun K hK => ?_) | (refine awp_skip ?_; (first | show AWP _ _ _ _ _ | show loopQ _ _ _ _ _ _)) | (refine awp_exit ?_; (first | show AWP _ _ _ _ _ | show loopQ _ _ _ _ _ _)) | ((first | refine walkS_end (hK _ ?_) | refine walkD_end (hK _ _ (okTrace_spec (by kernel_rfl)) ?_)); clear hK K; (first | show AWP _ _ _ _ _ | show loopQ _ _ _ _ _ _)) | ((first | refine walkS_run1 [5] rfl ?_ | refine walkD_run1 [5] rfl ?_); simp (maxSteps := 2000000) (disch := omega) only [go_sem, ↓reduceIte, reduceCtorEq, Nat.reduceLT, Nat.reducePow, Nat.reduceLeDiff, Nat.reduceAdd, Nat.reduceMul, Nat.reduceSub, Nat.reduceEqDiff, Nat.reduceBEq, Int.reduceToNat, Int.reduceBEq, Int.reduceBNe, ty24, ty26, ty36, ty22, ty3, ty4, ty48, hd, cb, eqty24, eqty26]; (repeat (first | refine ⟨by omega, ?_⟩ | refine ⟨True.intro, ?_⟩)))))
      refine awp_slot 2 _ (.p (.d (.sl 4 0 (rowC l)))) rfl le_emp ?_
      refine awp_ret ⟨_, ?_, rfl⟩; rw [Try.results68]; simp (disch := omega) only [ResVars, ResVar, ptrLoc, go_sem, ↓reduceIte, reduceCtorEq, Nat.reduceLT, Nat.reducePow, Nat.reduceLeDiff, Nat.reduceAdd, Nat.reduceMul, Nat.reduceSub, Nat.reduceEqDiff, Nat.reduceBEq, Int.reduceToNat, Int.reduceBEq, Int.reduceBNe, ty24, ty26, ty36, ty22, ty3, ty4, ty48, hd, cb, eqty24, eqty26]
    | some a =>
      refine acalls_of_awp Try.func68 rfl (by decide +kernel) (by rw [Try.ntmps68]; simp) ?_; rw [Try.ntmps68]; simp only [frOf]
      (repeat ((fail_if_success (show AWP _ _ (.region 3 _ _) _ _)); first | refine awp_seq ?_ | refine awp_yes rfl ?_ | refine awp_no rfl ?_ | refine awp_block ?_ | (refine awp_region fun K hK => ?_) | (refine awp_draw (by kernel_rfl) (by kernel_rfl) fun K hK => ?_) | (refine awp_skip ?_; (first | show AWP _ _ _ _ _ | show loopQ _ _ _ _ _ _)) | (refine awp_exit ?_; (first | show AWP _ _ _ _ _ | show loopQ _ _ _ _ _ _)) | ((first | refine walkS_end (hK _ ?_) | refine walkD_end (hK _ _ (okTrace_spec (by kernel_rfl)) ?_)); clear hK K; (first | show AWP _ _ _ _ _ | show loopQ _ _ _ _ _ _)) | ((first | refine walkS_run1 [5] rfl ?_ | refine walkD_run1 [5] rfl ?_); simp (maxSteps := 2000000) (disch := omega) only [go_sem, ↓reduceIte, reduceCtorEq, Nat.reduceLT, Nat.reducePow, Nat.reduceLeDiff, Nat.reduceAdd, Nat.reduceMul, Nat.reduceSub, Nat.reduceEqDiff, Nat.reduceBEq, Int.reduceToNat, Int.reduceBEq, Int.reduceBNe, ty24, ty26, ty36, ty22, ty3, ty4, ty48, hd, cb, eqty24, eqty26]; (repeat (first | refine ⟨by omega, ?_⟩ | refine ⟨True.intro, ?_⟩)))))
      refine awp_slot 0 _ (.p (.d (.sl 4 0 (rowC l)))) rfl le_emp ?_
      (repeat (first | refine awp_seq ?_ | refine awp_yes rfl ?_ | refine awp_no rfl ?_ | refine awp_block ?_ | (refine awp_region fun K hK => ?_) | (refine awp_draw (by kernel_rfl) (by kernel_rfl) fun K hK => ?_) | (refine awp_skip ?_; (first | show AWP _ _ _ _ _ | show loopQ _ _ _ _ _ _)) | (refine awp_exit ?_; (first | show AWP _ _ _ _ _ | show loopQ _ _ _ _ _ _)) | ((first | refine walkS_end (hK _ ?_) | refine walkD_end (hK _ _ (okTrace_spec (by kernel_rfl)) ?_)); clear hK K; (first | show AWP _ _ _ _ _ | show loopQ _ _ _ _ _ _)) | ((first | refine walkS_run1 [5] rfl ?_ | refine walkD_run1 [5] rfl ?_); simp (maxSteps := 2000000) (disch := omega) only [go_sem, ↓reduceIte, reduceCtorEq, Nat.reduceLT, Nat.reducePow, Nat.reduceLeDiff, Nat.reduceAdd, Nat.reduceMul, Nat.reduceSub, Nat.reduceEqDiff, Nat.reduceBEq, Int.reduceToNat, Int.reduceBEq, Int.reduceBNe, ty24, ty26, ty36, ty22, ty3, ty4, ty48, hd, cb, eqty24, eqty26]; (repeat (first | refine ⟨by omega, ?_⟩ | refine ⟨True.intro, ?_⟩)))))
      refine awp_slot 2 _ (.p (.d (.sl 4 0 (rowC l)))) rfl (le_gr rfl (fun i hi => by omega)) ?_
      refine awp_ret ⟨_, ?_, rfl⟩; rw [Try.results68]; simp (disch := omega) only [ResVars, ResVar, ptrLoc, go_sem, ↓reduceIte, reduceCtorEq, Nat.reduceLT, Nat.reducePow, Nat.reduceLeDiff, Nat.reduceAdd, Nat.reduceMul, Nat.reduceSub, Nat.reduceEqDiff, Nat.reduceBEq, Int.reduceToNat, Int.reduceBEq, Int.reduceBNe, ty24, ty26, ty36, ty22, ty3, ty4, ty48, hd, cb, eqty24, eqty26]
  · refine acalls_of_awp Try.func68 rfl (by decide +kernel) (by rw [Try.ntmps68]; simp) ?_; rw [Try.ntmps68]; simp only [frOf]
    (repeat (first | refine awp_seq ?_ | refine awp_yes rfl ?_ | refine awp_no rfl ?_ | refine awp_block ?_ | (refine awp_region fun K hK => ?_) | (refine awp_draw (by kernel_rfl) (by kernel_rfl) fun K hK => ?_) | (refine awp_skip ?_; (first | show AWP _ _ _ _ _ | show loopQ _ _ _ _ _ _)) | (refine awp_exit ?_; (first | show AWP _ _ _ _ _ | show loopQ _ _ _ _ _ _)) | ((first | refine walkS_end (hK _ ?_) | refine walkD_end (hK _ _ (okTrace_spec (by kernel_rfl)) ?_)); clear hK K; (first | show AWP _ _ _ _ _ | show loopQ _ _ _ _ _ _)) | ((first | refine walkS_run1 [5] rfl ?_ | refine walkD_run1 [5] rfl ?_); simp (maxSteps := 2000000) (disch := omega) only [go_sem, ↓reduceIte, reduceCtorEq, Nat.reduceLT, Nat.reducePow, Nat.reduceLeDiff, Nat.reduceAdd, Nat.reduceMul, Nat.reduceSub, Nat.reduceEqDiff, Nat.reduceBEq, Int.reduceToNat, Int.reduceBEq, Int.reduceBNe, ty24, ty26, ty36, ty22, ty3, ty4, ty48, hd, cb, eqty24, eqty26]; (repeat (first | refine ⟨by omega, ?_⟩ | refine ⟨True.intro, ?_⟩)))))
    refine awp_slot 2 _ (.p (.d (.sl 4 l.length (rowC l)))) rfl (le_gr (by omega) (fun i hi => by unfold catF; rw [if_neg (by omega)]; rfl)) ?_
    refine awp_ret ⟨_, ?_, rfl⟩; rw [Try.results68]; simp (disch := omega) only [ResVars, ResVar, ptrLoc, go_sem, ↓reduceIte, reduceCtorEq, Nat.reduceLT, Nat.reducePow, Nat.reduceLeDiff, Nat.reduceAdd, Nat.reduceMul, Nat.reduceSub, Nat.reduceEqDiff, Nat.reduceBEq, Int.reduceToNat, Int.reduceBEq, Int.reduceBNe, ty24, ty26, ty36, ty22, ty3, ty4, ty48, hd, cb, eqty24, eqty26]
end Go.Proofs.Ytfcfhlfehomhpaa
