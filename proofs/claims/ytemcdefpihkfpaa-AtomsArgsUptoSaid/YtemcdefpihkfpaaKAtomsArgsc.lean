/- Part 3 of a proof: lemmas beneath the theorem that the last text bears. Conditions: none. -/
import Derived.Test.YtemcdefpihkfpaaKAtomsArgsb
import Derived.Shelf.Spec.SlicesGrow
set_option linter.unusedSimpArgs false
set_option linter.unusedVariables false
namespace Go.Proofs.Ytemcdefpihkfpaa
open Go.Proofs.Ytemcdefpihkfpaa.AL
def rowZ (l : List Int) : Nat → List Dat := fun i => [.v (.int .i64 (l.getD i 0))]
theorem rowZ_at (l : List Int) (i : Nat) : rowZ l i = [.v (.int .i64 (l.getD i 0))] := rfl
theorem rowZ_put (out : List Int) (c : Int) (i : Nat) (hlt : i < out.length + 1) : catF out.length (rowZ out) (fun i => [[Dat.v (.int .i64 c)]].getD i []) i = rowZ (out ++ [c]) i := by
  unfold catF rowZ
  simp only [List.getD_eq_getElem?_getD]
  split
  · rw [List.getElem?_append_left (by assumption)]
  · have : i = out.length := by omega
    subst this
    simp
theorem rowZ_cat (a b : List Int) (i : Nat) : catF a.length (rowZ a) (rowZ b) i = rowZ (a ++ b) i := by
  unfold catF rowZ
  simp only [List.getD_eq_getElem?_getD]
  split
  · rw [List.getElem?_append_left (by assumption)]
  · rw [List.getElem?_append_right (by omega)]
theorem ClipZ_c (n : Nat) (f : Nat → List Dat) (hn : n ≤ 140737488355328) : ACalls Try.prog 39 [.d (.sl 1 n f)] (· = [.d (.sl 1 n f)]) := by
  refine z10 Try.func39 rfl (by decide +kernel) (by rw [Try.ntmps39]; simp) ?_; rw [Try.ntmps39]; simp only [frOf]
  (repeat (first | refine q0 ?_ | refine x7 rfl ?_ | refine j7 rfl ?_ | refine z6 ?_ | (refine j0 fun K hK => ?_) | (refine x4 (by kernel_rfl) (by kernel_rfl) fun K hK => ?_) | ((first | refine q6 ?_ | refine x6 ?_ | ((first | refine q4 (hK _ ?_) | refine q5 (hK _ _ (j4 (by kernel_rfl)) ?_)); clear hK K)); (first | show AWP _ _ _ _ _ | ((try simp only [j6]); first | show loopQ _ _ _ _ _ _ | show cutQ _ _ _ _ | show AWP _ _ _ _ _))) | ((first | refine q8 [] rfl ?_ | refine z8 [] rfl ?_); simp (maxSteps := 2000000) (disch := omega) only [go_sem, seval]; (repeat (first | refine ⟨by omega, ?_⟩ | refine ⟨True.intro, ?_⟩)))))
  refine q10 ⟨_, ?_, rfl⟩; rw [Try.results39]; simp (disch := omega) only [ResVars, ResVar, ptrLoc, go_sem, seval]
  rfl
set_option maxRecDepth 100000 in
theorem CloneZ_some (n : Nat) (f : Nat → List Dat) (h0 : 0 < n) (hn : n ≤ 1099511627776) : MCalls Try.prog 57 [.p (.d (.sl 1 n f))] [] (fun rs M => rs = [.ow 5 1 1 n] ∧ M = [(5, .own 3 1 n 1 f)]) := by
  refine mcalls_of_awp Try.func57 rfl (by decide +kernel) (by rw [Try.ntmps57]; simp) (fun l X h => by simp only [AL.look] at h; (repeat' split at h); all_goals first | omega | cases h) ?_; rw [Try.ntmps57]; simp only [frA]
  (repeat (first | refine q0 ?_ | refine x7 rfl ?_ | refine j7 rfl ?_ | refine z6 ?_ | (refine j0 fun K hK => ?_) | (refine x4 (by kernel_rfl) (by kernel_rfl) fun K hK => ?_) | ((first | refine q6 ?_ | refine x6 ?_ | ((first | refine q4 (hK _ ?_) | refine q5 (hK _ _ (j4 (by kernel_rfl)) ?_)); clear hK K)); (first | show AWP _ _ _ _ _ | ((try simp only [j6]); first | show loopQ _ _ _ _ _ _ | show cutQ _ _ _ _ | show AWP _ _ _ _ _))) | ((first | refine q8 [10005] rfl ?_ | refine z8 [10005] rfl ?_); simp (maxSteps := 2000000) (disch := omega) only [go_sem, seval]; (repeat (first | refine ⟨by omega, ?_⟩ | refine ⟨True.intro, ?_⟩)))))
  refine awp_ownf 5 f rfl (fun i hi => by unfold catF; rw [if_neg (by omega)]; rfl) ?_
  refine q10 ?_
  exact retM_one rfl rfl rfl ⟨rfl, rfl⟩
set_option maxRecDepth 100000 in
theorem CloneZ_emp (a : Addr) (c : Nat) (f : Nat → List Dat) : MCalls Try.prog 57 [.p (.d (.v (.slice (some a) 0 c)))] [] (fun rs M => rs = [.ow 5 1 1 0] ∧ M = [(5, .own 3 1 0 1 f)]) := by
  refine mcalls_of_awp Try.func57 rfl (by decide +kernel) (by rw [Try.ntmps57]; simp) (fun l X h => by simp only [AL.look] at h; (repeat' split at h); all_goals first | omega | cases h) ?_; rw [Try.ntmps57]; simp only [frA]
  (repeat ((fail_if_success (show AWP _ _ (.region 3 _ _) _ _)); first | refine q0 ?_ | refine x7 rfl ?_ | refine j7 rfl ?_ | refine z6 ?_ | (refine j0 fun K hK => ?_) | (refine x4 (by kernel_rfl) (by kernel_rfl) fun K hK => ?_) | ((first | refine q6 ?_ | refine x6 ?_ | ((first | refine q4 (hK _ ?_) | refine q5 (hK _ _ (j4 (by kernel_rfl)) ?_)); clear hK K)); (first | show AWP _ _ _ _ _ | ((try simp only [j6]); first | show loopQ _ _ _ _ _ _ | show cutQ _ _ _ _ | show AWP _ _ _ _ _))) | ((first | refine q8 [10005] rfl ?_ | refine z8 [10005] rfl ?_); simp (maxSteps := 2000000) (disch := omega) only [go_sem, seval]; (repeat (first | refine ⟨by omega, ?_⟩ | refine ⟨True.intro, ?_⟩)))))
  refine awp_slot 0 _ (.p (.d (.sl 1 0 f))) rfl le_emp ?_
  (repeat (first | refine q0 ?_ | refine x7 rfl ?_ | refine j7 rfl ?_ | refine z6 ?_ | (refine j0 fun K hK => ?_) | (refine x4 (by kernel_rfl) (by kernel_rfl) fun K hK => ?_) | ((first | refine q6 ?_ | refine x6 ?_ | ((first | refine q4 (hK _ ?_) | refine q5 (hK _ _ (j4 (by kernel_rfl)) ?_)); clear hK K)); (first | show AWP _ _ _ _ _ | ((try simp only [j6]); first | show loopQ _ _ _ _ _ _ | show cutQ _ _ _ _ | show AWP _ _ _ _ _))) | ((first | refine q8 [10005] rfl ?_ | refine z8 [10005] rfl ?_); simp (maxSteps := 2000000) (disch := omega) only [go_sem, seval]; (repeat (first | refine ⟨by omega, ?_⟩ | refine ⟨True.intro, ?_⟩)))))
  refine awp_ownf 5 f rfl (fun i hi => by omega) ?_
  refine q10 ?_
  exact retM_one rfl rfl rfl ⟨rfl, rfl⟩
set_option maxRecDepth 100000 in
theorem CloneZ_nil (c : Nat) (f : Nat → List Dat) : MCalls Try.prog 57 [.p (.d (.v (.slice none 0 c)))] [] (fun rs M => rs = [.ow 5 0 1 0] ∧ M = [(5, .own 3 1 0 0 f)]) := by
  refine mcalls_of_awp Try.func57 rfl (by decide +kernel) (by rw [Try.ntmps57]; simp) (fun l X h => by simp only [AL.look] at h; (repeat' split at h); all_goals first | omega | cases h) ?_; rw [Try.ntmps57]; simp only [frA]
  (repeat (first | refine q0 ?_ | refine x7 rfl ?_ | refine j7 rfl ?_ | refine z6 ?_ | (refine j0 fun K hK => ?_) | (refine x4 (by kernel_rfl) (by kernel_rfl) fun K hK => ?_) | ((first | refine q6 ?_ | refine x6 ?_ | ((first | refine q4 (hK _ ?_) | refine q5 (hK _ _ (j4 (by kernel_rfl)) ?_)); clear hK K)); (first | show AWP _ _ _ _ _ | ((try simp only [j6]); first | show loopQ _ _ _ _ _ _ | show cutQ _ _ _ _ | show AWP _ _ _ _ _))) | ((first | refine q8 [10005] rfl ?_ | refine z8 [10005] rfl ?_); simp (maxSteps := 2000000) (disch := omega) only [go_sem, seval]; (repeat (first | refine ⟨by omega, ?_⟩ | refine ⟨True.intro, ?_⟩)))))
  refine awp_own 2 5 1 3 f rfl (by kernel_rfl) rfl ?_
  refine q10 ?_
  exact retM_one rfl rfl rfl ⟨rfl, rfl⟩
theorem CloneZ_c (l : List Int) (hl : l.length ≤ 1099511627776) : ACalls Try.prog 57 [.d (.sl 1 l.length (rowZ l))] (· = [.d (.sl 1 l.length (rowZ l))]) := by
  by_cases h : l.length = 0
  · rw [h]
    refine acalls_empty fun a c => ?_
    cases a with
    | none =>
      refine z10 Try.func57 rfl (by decide +kernel) (by rw [Try.ntmps57]; simp) ?_; rw [Try.ntmps57]; simp only [frOf]
      (repeat (first | refine q0 ?_ | refine x7 rfl ?_ | refine j7 rfl ?_ | refine z6 ?_ | (refine j0 fun K hK => ?_) | (refine x4 (by kernel_rfl) (by kernel_rfl) fun K hK => ?_) | ((first | refine q6 ?_ | refine x6 ?_ | ((first | refine q4 (hK _ ?_) | refine q5 (hK _ _ (j4 (by kernel_rfl)) ?_)); clear hK K)); (first | show AWP _ _ _ _ _ | ((try simp only [j6]); first | show loopQ _ _ _ _ _ _ | show cutQ _ _ _ _ | show AWP _ _ _ _ _))) | ((first | refine q8 [5] rfl ?_ | refine z8 [5] rfl ?_); simp (maxSteps := 2000000) (disch := omega) only [go_sem, seval]; (repeat (first | refine ⟨by omega, ?_⟩ | refine ⟨True.intro, ?_⟩)))))
      refine awp_slot 2 _ (.p (.d (.sl 1 0 (rowZ l)))) rfl le_emp ?_
      refine q10 ⟨_, ?_, rfl⟩; rw [Try.results57]; simp (disch := omega) only [ResVars, ResVar, ptrLoc, go_sem, seval]
    | some a =>
      refine z10 Try.func57 rfl (by decide +kernel) (by rw [Try.ntmps57]; simp) ?_; rw [Try.ntmps57]; simp only [frOf]
      (repeat ((fail_if_success (show AWP _ _ (.region 3 _ _) _ _)); first | refine q0 ?_ | refine x7 rfl ?_ | refine j7 rfl ?_ | refine z6 ?_ | (refine j0 fun K hK => ?_) | (refine x4 (by kernel_rfl) (by kernel_rfl) fun K hK => ?_) | ((first | refine q6 ?_ | refine x6 ?_ | ((first | refine q4 (hK _ ?_) | refine q5 (hK _ _ (j4 (by kernel_rfl)) ?_)); clear hK K)); (first | show AWP _ _ _ _ _ | ((try simp only [j6]); first | show loopQ _ _ _ _ _ _ | show cutQ _ _ _ _ | show AWP _ _ _ _ _))) | ((first | refine q8 [5] rfl ?_ | refine z8 [5] rfl ?_); simp (maxSteps := 2000000) (disch := omega) only [go_sem, seval]; (repeat (first | refine ⟨by omega, ?_⟩ | refine ⟨True.intro, ?_⟩)))))
      refine awp_slot 0 _ (.p (.d (.sl 1 0 (rowZ l)))) rfl le_emp ?_
      (repeat (first | refine q0 ?_ | refine x7 rfl ?_ | refine j7 rfl ?_ | refine z6 ?_ | (refine j0 fun K hK => ?_) | (refine x4 (by kernel_rfl) (by kernel_rfl) fun K hK => ?_) | ((first | refine q6 ?_ | refine x6 ?_ | ((first | refine q4 (hK _ ?_) | refine q5 (hK _ _ (j4 (by kernel_rfl)) ?_)); clear hK K)); (first | show AWP _ _ _ _ _ | ((try simp only [j6]); first | show loopQ _ _ _ _ _ _ | show cutQ _ _ _ _ | show AWP _ _ _ _ _))) | ((first | refine q8 [5] rfl ?_ | refine z8 [5] rfl ?_); simp (maxSteps := 2000000) (disch := omega) only [go_sem, seval]; (repeat (first | refine ⟨by omega, ?_⟩ | refine ⟨True.intro, ?_⟩)))))
      refine awp_slot 2 _ (.p (.d (.sl 1 0 (rowZ l)))) rfl (le_gr rfl (fun i hi => by omega)) ?_
      refine q10 ⟨_, ?_, rfl⟩; rw [Try.results57]; simp (disch := omega) only [ResVars, ResVar, ptrLoc, go_sem, seval]
  · refine z10 Try.func57 rfl (by decide +kernel) (by rw [Try.ntmps57]; simp) ?_; rw [Try.ntmps57]; simp only [frOf]
    (repeat (first | refine q0 ?_ | refine x7 rfl ?_ | refine j7 rfl ?_ | refine z6 ?_ | (refine j0 fun K hK => ?_) | (refine x4 (by kernel_rfl) (by kernel_rfl) fun K hK => ?_) | ((first | refine q6 ?_ | refine x6 ?_ | ((first | refine q4 (hK _ ?_) | refine q5 (hK _ _ (j4 (by kernel_rfl)) ?_)); clear hK K)); (first | show AWP _ _ _ _ _ | ((try simp only [j6]); first | show loopQ _ _ _ _ _ _ | show cutQ _ _ _ _ | show AWP _ _ _ _ _))) | ((first | refine q8 [5] rfl ?_ | refine z8 [5] rfl ?_); simp (maxSteps := 2000000) (disch := omega) only [go_sem, seval]; (repeat (first | refine ⟨by omega, ?_⟩ | refine ⟨True.intro, ?_⟩)))))
    refine awp_slot 2 _ (.p (.d (.sl 1 l.length (rowZ l)))) rfl (le_gr (by omega) (fun i hi => by unfold catF; rw [if_neg (by omega)]; rfl)) ?_
    refine q10 ⟨_, ?_, rfl⟩; rw [Try.results57]; simp (disch := omega) only [ResVars, ResVar, ptrLoc, go_sem, seval]
def Inc (l : List Int) : Prop := l.Pairwise (· < ·)
def incTo (l : List Int) (i : Nat) : Bool := (List.range i).all fun k => k == 0 || decide (l.getD (k - 1) 0 < l.getD k 0)
def soundZ (l : List Int) : Bool := incTo l l.length
theorem incTo_succ (l : List Int) (i : Nat) : incTo l (i + 1) = (incTo l i && (i == 0 || decide (l.getD (i - 1) 0 < l.getD i 0))) := by
  unfold incTo; rw [List.range_succ, List.all_append]; simp
theorem incTo_false {l : List Int} {i : Nat} (h : incTo l i = false) : ∀ {j}, i ≤ j → incTo l j = false := by
  intro j hj
  induction j with
  | zero => have : i = 0 := by omega
            subst this; exact h
  | succ j ih =>
    rcases Nat.lt_or_eq_of_le hj with hlt | rfl
    · rw [incTo_succ, ih (by omega)]; rfl
    · exact h
theorem inc_of {l : List Int} (h : soundZ l = true) : Inc l := by
  have step : ∀ k, k + 1 < l.length → l.getD k 0 < l.getD (k + 1) 0 := by
    intro k hk
    have := List.all_eq_true.1 h (k + 1) (List.mem_range.2 hk)
    simpa using this
  refine List.pairwise_iff_getElem.2 fun i j hi hj hij => ?_
  have key : ∀ d, i + d + 1 < l.length → l.getD i 0 < l.getD (i + d + 1) 0 := by
    intro d
    induction d with
    | zero => exact step i
    | succ d ih => intro hd; exact Int.lt_trans (ih (by omega)) (step (i + d + 1) (by omega))
  have := key (j - i - 1) (by omega)
  rw [show i + (j - i - 1) + 1 = j from by omega] at this
  simpa [hi, hj] using this
def soundM' (l : List Int) (gen : Nat) (s : {i : Nat // 1 ≤ i ∧ (i ≤ l.length ∨ i = 1) ∧ incTo l i = true}) : ASt :=
  ⟨[(3, .p (.d (.v (.int .i64 (s.val : Int))))), (0, .ow 1000 gen 1 l.length)], [(1000, .own 3 1 l.length gen (rowZ l))]⟩
theorem incTo_one (l : List Int) : incTo l 1 = true := by simp [incTo]
set_option maxRecDepth 100000 in
theorem SoundZ_m (l : List Int) (gen : Nat) (hl : l.length ≤ 1099511627776) : MCalls Try.prog 60 [.ow 1000 gen 1 l.length] [(1000, .own 3 1 l.length gen (rowZ l))] (fun rs M => rs = [.p (.d (.v (.bool (soundZ l))))] ∧ M = [(1000, .own 3 1 l.length gen (rowZ l))]) := by
  refine mcalls_of_awp Try.func60 rfl (by decide +kernel) (by rw [Try.ntmps60]; simp) (fun l X h => by simp only [AL.look] at h; (repeat' split at h); all_goals first | omega | cases h) ?_; rw [Try.ntmps60]; simp only [frA]
  (repeat (first | refine q0 ?_ | refine x7 rfl ?_ | refine j7 rfl ?_ | refine z6 ?_ | (refine j0 fun K hK => ?_) | (refine x4 (by kernel_rfl) (by kernel_rfl) fun K hK => ?_) | ((first | refine q6 ?_ | refine x6 ?_ | ((first | refine q4 (hK _ ?_) | refine q5 (hK _ _ (j4 (by kernel_rfl)) ?_)); clear hK K)); (first | show AWP _ _ _ _ _ | ((try simp only [j6]); first | show loopQ _ _ _ _ _ _ | show cutQ _ _ _ _ | show AWP _ _ _ _ _))) | ((first | refine q8 [] rfl ?_ | refine z8 [] rfl ?_); simp (maxSteps := 2000000) (disch := omega) only [go_sem, seval]; (repeat (first | refine ⟨by omega, ?_⟩ | refine ⟨True.intro, ?_⟩)))))
  refine awp_loop (soundM' l gen) (fun s => l.length - s.val) ⟨1, by omega, by omega, incTo_one l⟩ ?_ (fun s => ?_)
  · unfold soundM'
    refine Weak.list ?_ ?_; (all_goals simp (disch := omega) only [AllF, AllL, j10, le_top, x10, exists_eq_left', Option.some.injEq, go_sem, seval]); (all_goals (repeat' (with_reducible apply And.intro))); (all_goals try (first | exact x8 rfl | (refine le_int ?_; omega) | (refine x8 ?_; simp; done)))
  obtain ⟨i, h1, h2, h3⟩ := s
  unfold soundM'
  by_cases h : i < l.length
  · obtain ⟨k, rfl⟩ : ∃ k, i = k + 1 := ⟨i - 1, by omega⟩
    have r1 := rowZ_at l (k + 1)
    have r2 := rowZ_at l k
    have st := incTo_succ l (k + 1)
    rw [h3, Nat.add_sub_cancel, show (k + 1 == 0) = false from rfl, Bool.true_and, Bool.false_or] at st
    generalize l.getD (k + 1) 0 = a at r1 st
    generalize l.getD k 0 = b at r2 st
    by_cases hab : b < a
    · rw [decide_eq_true hab] at st
      (repeat (first | refine q0 ?_ | refine x7 rfl ?_ | refine j7 rfl ?_ | refine z6 ?_ | (refine j0 fun K hK => ?_) | (refine x4 (by kernel_rfl) (by kernel_rfl) fun K hK => ?_) | ((first | refine q6 ?_ | refine x6 ?_ | ((first | refine q4 (hK _ ?_) | refine q5 (hK _ _ (j4 (by kernel_rfl)) ?_)); clear hK K)); (first | show AWP _ _ _ _ _ | ((try simp only [j6]); first | show loopQ _ _ _ _ _ _ | show cutQ _ _ _ _ | show AWP _ _ _ _ _))) | ((first | refine q8 [] rfl ?_ | refine z8 [] rfl ?_); simp (maxSteps := 2000000) (disch := omega) only [go_sem, seval, r1, r2]; (repeat (first | refine ⟨by omega, ?_⟩ | refine ⟨True.intro, ?_⟩)))))
      refine ⟨⟨k + 1 + 1, by omega, by omega, st⟩, by simp only []; omega, ?_⟩
      refine Weak.list ?_ ?_; (all_goals simp (disch := omega) only [AllF, AllL, j10, le_top, x10, exists_eq_left', Option.some.injEq, go_sem, seval, r1, r2]); (all_goals (repeat' (with_reducible apply And.intro))); (all_goals try (first | exact x8 rfl | (refine le_int ?_; omega) | (refine x8 ?_; simp; done)))
    · rw [decide_eq_false hab] at st
      have : soundZ l = false := incTo_false st (by omega)
      rw [this]
      (repeat (first | refine q0 ?_ | refine x7 rfl ?_ | refine j7 rfl ?_ | refine z6 ?_ | (refine j0 fun K hK => ?_) | (refine x4 (by kernel_rfl) (by kernel_rfl) fun K hK => ?_) | ((first | refine q6 ?_ | refine x6 ?_ | ((first | refine q4 (hK _ ?_) | refine q5 (hK _ _ (j4 (by kernel_rfl)) ?_)); clear hK K)); (first | show AWP _ _ _ _ _ | ((try simp only [j6]); first | show loopQ _ _ _ _ _ _ | show cutQ _ _ _ _ | show AWP _ _ _ _ _))) | ((first | refine q8 [] rfl ?_ | refine z8 [] rfl ?_); simp (maxSteps := 2000000) (disch := omega) only [go_sem, seval, r1, r2]; (repeat (first | refine ⟨by omega, ?_⟩ | refine ⟨True.intro, ?_⟩)))))
      refine q10 ?_
      exact retM_one rfl rfl rfl ⟨rfl, rfl⟩
  · have : soundZ l = true := by
      unfold soundZ
      rcases Nat.lt_or_eq_of_le (show l.length ≤ i by omega) with hlt | rfl
      · have : l.length = 0 := by omega
        rw [this]; rfl
      · exact h3
    rw [this]
    (repeat (first | refine q0 ?_ | refine x7 rfl ?_ | refine j7 rfl ?_ | refine z6 ?_ | (refine j0 fun K hK => ?_) | (refine x4 (by kernel_rfl) (by kernel_rfl) fun K hK => ?_) | ((first | refine q6 ?_ | refine x6 ?_ | ((first | refine q4 (hK _ ?_) | refine q5 (hK _ _ (j4 (by kernel_rfl)) ?_)); clear hK K)); (first | show AWP _ _ _ _ _ | ((try simp only [j6]); first | show loopQ _ _ _ _ _ _ | show cutQ _ _ _ _ | show AWP _ _ _ _ _))) | ((first | refine q8 [] rfl ?_ | refine z8 [] rfl ?_); simp (maxSteps := 2000000) (disch := omega) only [go_sem, seval]; (repeat (first | refine ⟨by omega, ?_⟩ | refine ⟨True.intro, ?_⟩)))))
    refine q10 ?_
    exact retM_one rfl rfl rfl ⟨rfl, rfl⟩
theorem isNaN1_c (a : Int) : ACalls Try.prog 74 [.d (.v (.int .i64 a))] (· = [.d (.v (.bool false))]) := by
  have q : (a != a) = false := bne_self_eq_false a
  refine z10 Try.func74 rfl (by decide +kernel) (by rw [Try.ntmps74]; simp) ?_; rw [Try.ntmps74]; simp only [frOf]
  (repeat (first | refine q0 ?_ | refine x7 rfl ?_ | refine j7 rfl ?_ | refine z6 ?_ | (refine j0 fun K hK => ?_) | (refine x4 (by kernel_rfl) (by kernel_rfl) fun K hK => ?_) | ((first | refine q6 ?_ | refine x6 ?_ | ((first | refine q4 (hK _ ?_) | refine q5 (hK _ _ (j4 (by kernel_rfl)) ?_)); clear hK K)); (first | show AWP _ _ _ _ _ | ((try simp only [j6]); first | show loopQ _ _ _ _ _ _ | show cutQ _ _ _ _ | show AWP _ _ _ _ _))) | ((first | refine q8 [] rfl ?_ | refine z8 [] rfl ?_); simp (maxSteps := 2000000) (disch := omega) only [go_sem, seval, q]; (repeat (first | refine ⟨by omega, ?_⟩ | refine ⟨True.intro, ?_⟩)))))
  refine q10 ⟨_, ?_, rfl⟩; rw [Try.results74]; simp (disch := omega) only [ResVars, ResVar, ptrLoc, go_sem, seval, q]
theorem isNaN2_c (a : Int) : ACalls Try.prog 92 [.d (.v (.int .i64 a))] (· = [.d (.v (.bool false))]) := by
  have q : (a != a) = false := bne_self_eq_false a
  refine z10 Try.func92 rfl (by decide +kernel) (by rw [Try.ntmps92]; simp) ?_; rw [Try.ntmps92]; simp only [frOf]
  (repeat (first | refine q0 ?_ | refine x7 rfl ?_ | refine j7 rfl ?_ | refine z6 ?_ | (refine j0 fun K hK => ?_) | (refine x4 (by kernel_rfl) (by kernel_rfl) fun K hK => ?_) | ((first | refine q6 ?_ | refine x6 ?_ | ((first | refine q4 (hK _ ?_) | refine q5 (hK _ _ (j4 (by kernel_rfl)) ?_)); clear hK K)); (first | show AWP _ _ _ _ _ | ((try simp only [j6]); first | show loopQ _ _ _ _ _ _ | show cutQ _ _ _ _ | show AWP _ _ _ _ _))) | ((first | refine q8 [] rfl ?_ | refine z8 [] rfl ?_); simp (maxSteps := 2000000) (disch := omega) only [go_sem, seval, q]; (repeat (first | refine ⟨by omega, ?_⟩ | refine ⟨True.intro, ?_⟩)))))
  refine q10 ⟨_, ?_, rfl⟩; rw [Try.results92]; simp (disch := omega) only [ResVars, ResVar, ptrLoc, go_sem, seval, q]
theorem LessI_c (a b : Int) : ACalls Try.prog 73 [.d (.v (.int .i64 a)), .d (.v (.int .i64 b))] (· = [.d (.v (.bool (decide (a < b))))]) := by
  by_cases h : a < b
  · rw [decide_eq_true h]
    refine z10 Try.func73 rfl (by decide +kernel) (by rw [Try.ntmps73]; simp) ?_; rw [Try.ntmps73]; simp only [frOf]
    (repeat (first | refine q0 ?_ | refine x7 rfl ?_ | refine j7 rfl ?_ | refine z6 ?_ | (refine j0 fun K hK => ?_) | (refine x4 (by kernel_rfl) (by kernel_rfl) fun K hK => ?_) | ((first | refine q6 ?_ | refine x6 ?_ | ((first | refine q4 (hK _ ?_) | refine q5 (hK _ _ (j4 (by kernel_rfl)) ?_)); clear hK K)); (first | show AWP _ _ _ _ _ | ((try simp only [j6]); first | show loopQ _ _ _ _ _ _ | show cutQ _ _ _ _ | show AWP _ _ _ _ _))) | ((first | refine x9 rfl rfl rfl ?_ | refine j9 rfl rfl rfl ?_); simp (maxSteps := 2000000) (disch := omega) only [go_sem, seval]; (first | refine ⟨_, isNaN2_c a, ?_⟩ | refine ⟨_, isNaN2_c b, ?_⟩)) | ((first | refine q8 [] rfl ?_ | refine z8 [] rfl ?_); simp (maxSteps := 2000000) (disch := omega) only [go_sem, seval]; (repeat (first | refine ⟨by omega, ?_⟩ | refine ⟨True.intro, ?_⟩)))))
    refine q10 ⟨_, ?_, rfl⟩; rw [Try.results73]; simp (disch := omega) only [ResVars, ResVar, ptrLoc, go_sem, seval]
  · rw [decide_eq_false h]
    refine z10 Try.func73 rfl (by decide +kernel) (by rw [Try.ntmps73]; simp) ?_; rw [Try.ntmps73]; simp only [frOf]
    (repeat (first | refine q0 ?_ | refine x7 rfl ?_ | refine j7 rfl ?_ | refine z6 ?_ | (refine j0 fun K hK => ?_) | (refine x4 (by kernel_rfl) (by kernel_rfl) fun K hK => ?_) | ((first | refine q6 ?_ | refine x6 ?_ | ((first | refine q4 (hK _ ?_) | refine q5 (hK _ _ (j4 (by kernel_rfl)) ?_)); clear hK K)); (first | show AWP _ _ _ _ _ | ((try simp only [j6]); first | show loopQ _ _ _ _ _ _ | show cutQ _ _ _ _ | show AWP _ _ _ _ _))) | ((first | refine x9 rfl rfl rfl ?_ | refine j9 rfl rfl rfl ?_); simp (maxSteps := 2000000) (disch := omega) only [go_sem, seval]; (first | refine ⟨_, isNaN2_c a, ?_⟩ | refine ⟨_, isNaN2_c b, ?_⟩)) | ((first | refine q8 [] rfl ?_ | refine z8 [] rfl ?_); simp (maxSteps := 2000000) (disch := omega) only [go_sem, seval]; (repeat (first | refine ⟨by omega, ?_⟩ | refine ⟨True.intro, ?_⟩)))))
    refine q10 ⟨_, ?_, rfl⟩; rw [Try.results73]; simp (disch := omega) only [ResVars, ResVar, ptrLoc, go_sem, seval]
theorem halfZ (i j : Nat) : ((i : Int) + (j : Int)) / 2 ^ min 1 64 = (((i + j) / 2 : Nat) : Int) := by
  have : (2 : Int) ^ min 1 64 = 2 := by decide
  rw [this]; omega
def bsI (l : List Int) (x : Int) (s : {s : Nat × Nat // s.1 ≤ s.2 ∧ s.2 ≤ l.length ∧ (∀ k, k < s.1 → l.getD k 0 < x) ∧ ∀ k, s.2 ≤ k → k < l.length → x ≤ l.getD k 0}) : ASt :=
  ⟨[(8, .p (.d (.v (.int .i64 (s.val.2 : Int))))), (7, .p (.d (.v (.int .i64 (s.val.1 : Int))))), (6, .p (.d (.v (.int .i64 (l.length : Int))))), (1, .p (.d (.v (.int .i64 x)))), (0, .p (.d (.sl 1 l.length (rowZ l))))], []⟩
theorem inc_lt {l : List Int} (h : Inc l) {i j : Nat} (h1 : i < j) (h2 : j < l.length) : l.getD i 0 < l.getD j 0 := by
  have := List.pairwise_iff_getElem.1 h i j (by omega) h2 h1
  simpa [h2, show i < l.length by omega] using this
theorem contains_at {l : List Int} {x : Int} : l.contains x = true ↔ ∃ k, k < l.length ∧ l.getD k 0 = x := by
  rw [List.contains_iff_mem, List.mem_iff_getElem]
  constructor
  · rintro ⟨k, hk, h⟩; exact ⟨k, hk, by simp [hk, h]⟩
  · rintro ⟨k, hk, h⟩; exact ⟨k, hk, by simpa [hk] using h⟩
set_option maxRecDepth 100000 in
set_option maxHeartbeats 1000000 in
theorem Search_c (l : List Int) (x : Int) (hs : Inc l) (hl : l.length ≤ 1099511627776) : ∃ p : Nat, ACalls Try.prog 63 [.d (.sl 1 l.length (rowZ l)), .d (.v (.int .i64 x))] (· = [.d (.v (.int .i64 (p : Int))), .d (.v (.bool (l.contains x)))]) := by
  obtain ⟨p, hp1, hp2, hp3⟩ : ∃ p, p ≤ l.length ∧ (∀ k, k < p → l.getD k 0 < x) ∧ ∀ k, p ≤ k → k < l.length → x ≤ l.getD k 0 := by
    have key : ∀ d, d ≤ l.length → ∃ p, p ≤ d ∧ (∀ k, k < p → l.getD k 0 < x) ∧ ∀ k, p ≤ k → k < d → x ≤ l.getD k 0 := by
      intro d
      induction d with
      | zero => intro _; exact ⟨0, by omega, fun k hk => by omega, fun k h1 h2 => by omega⟩
      | succ d ih =>
        intro hd
        obtain ⟨p, h1, h2, h3⟩ := ih (by omega)
        by_cases hx : l.getD d 0 < x
        · refine ⟨d + 1, by omega, fun k hk => ?_, fun k k1 k2 => by omega⟩
          rcases Nat.lt_or_eq_of_le (show k ≤ d by omega) with hlt | rfl
          · exact Int.lt_trans (inc_lt hs hlt (by omega)) hx
          · exact hx
        · refine ⟨p, by omega, h2, fun k k1 k2 => ?_⟩
          by_cases hkd : k = d
          · rw [hkd]; omega
          · exact h3 k k1 (by omega)
    exact key l.length (Nat.le_refl _)
  refine ⟨p, ?_⟩
  refine z10 Try.func63 rfl (by decide +kernel) (by rw [Try.ntmps63]; simp) ?_; rw [Try.ntmps63]; simp only [frOf]
  (repeat (first | refine q0 ?_ | refine x7 rfl ?_ | refine j7 rfl ?_ | refine z6 ?_ | (refine j0 fun K hK => ?_) | (refine x4 (by kernel_rfl) (by kernel_rfl) fun K hK => ?_) | ((first | refine q6 ?_ | refine x6 ?_ | ((first | refine q4 (hK _ ?_) | refine q5 (hK _ _ (j4 (by kernel_rfl)) ?_)); clear hK K)); (first | show AWP _ _ _ _ _ | ((try simp only [j6]); first | show loopQ _ _ _ _ _ _ | show cutQ _ _ _ _ | show AWP _ _ _ _ _))) | ((first | refine q8 [] rfl ?_ | refine z8 [] rfl ?_); simp (maxSteps := 2000000) (disch := omega) only [go_sem, seval]; (repeat (first | refine ⟨by omega, ?_⟩ | refine ⟨True.intro, ?_⟩)))))
  refine awp_loop (bsI l x) (fun s => s.val.2 - s.val.1) ⟨(0, l.length), by simp, by simp, fun k hk => by simp only [] at hk; omega, fun k h1 h2 => by simp only [] at h1; omega⟩ ?_ (fun s => ?_)
  · unfold bsI
    refine Weak.list ?_ ?_; (all_goals simp (disch := omega) only [AllF, AllL, j10, le_top, x10, exists_eq_left', Option.some.injEq, go_sem, seval]); (all_goals (repeat' (with_reducible apply And.intro))); (all_goals try (first | exact x8 rfl | (refine le_int ?_; omega) | (refine x8 ?_; simp; done)))
  obtain ⟨⟨i, j⟩, hij, hj, lo, hi⟩ := s
  unfold bsI
  simp only [] at hij hj lo hi
  by_cases h : i < j
  · have hf := halfZ i j
    obtain ⟨d, hdd⟩ : ∃ d, d = (i + j) / 2 := ⟨_, rfl⟩
    rw [← hdd] at hf
    have r1 := rowZ_at l d
    have ls := LessI_c (l.getD d 0) x
    by_cases hlt : l.getD d 0 < x
    · rw [decide_eq_true hlt] at ls
      have lo' : ∀ k, k < d + 1 → l.getD k 0 < x := fun k hk => by
        rcases Nat.lt_or_eq_of_le (show k ≤ d by omega) with h2 | rfl
        · exact Int.lt_trans (inc_lt hs h2 (by omega)) hlt
        · exact hlt
      generalize l.getD d 0 = y at r1 ls
      (repeat (first | refine q0 ?_ | refine x7 rfl ?_ | refine j7 rfl ?_ | refine z6 ?_ | (refine j0 fun K hK => ?_) | (refine x4 (by kernel_rfl) (by kernel_rfl) fun K hK => ?_) | ((first | refine q6 ?_ | refine x6 ?_ | ((first | refine q4 (hK _ ?_) | refine q5 (hK _ _ (j4 (by kernel_rfl)) ?_)); clear hK K)); (first | show AWP _ _ _ _ _ | ((try simp only [j6]); first | show loopQ _ _ _ _ _ _ | show cutQ _ _ _ _ | show AWP _ _ _ _ _))) | ((first | refine x9 rfl rfl rfl ?_ | refine j9 rfl rfl rfl ?_); simp (maxSteps := 2000000) (disch := omega) only [go_sem, seval, hf, r1]; (first | refine ⟨_, ls, ?_⟩)) | ((first | refine q8 [] rfl ?_ | refine z8 [] rfl ?_); simp (maxSteps := 2000000) (disch := omega) only [go_sem, seval, hf, r1]; (repeat (first | refine ⟨by omega, ?_⟩ | refine ⟨True.intro, ?_⟩)))))
      refine ⟨⟨(d + 1, j), by simp only []; omega, hj, lo', hi⟩, by simp only []; omega, ?_⟩
      refine Weak.list ?_ ?_; (all_goals simp (disch := omega) only [AllF, AllL, j10, le_top, x10, exists_eq_left', Option.some.injEq, go_sem, seval, hf, r1]); (all_goals (repeat' (with_reducible apply And.intro))); (all_goals try (first | exact x8 rfl | (refine le_int ?_; omega) | (refine x8 ?_; simp; done)))
    · rw [decide_eq_false hlt] at ls
      have hi' : ∀ k, d ≤ k → k < l.length → x ≤ l.getD k 0 := fun k k1 k2 => by
        rcases Nat.lt_or_eq_of_le k1 with h2 | rfl
        · have := inc_lt hs h2 k2; omega
        · omega
      generalize l.getD d 0 = y at r1 ls
      (repeat (first | refine q0 ?_ | refine x7 rfl ?_ | refine j7 rfl ?_ | refine z6 ?_ | (refine j0 fun K hK => ?_) | (refine x4 (by kernel_rfl) (by kernel_rfl) fun K hK => ?_) | ((first | refine q6 ?_ | refine x6 ?_ | ((first | refine q4 (hK _ ?_) | refine q5 (hK _ _ (j4 (by kernel_rfl)) ?_)); clear hK K)); (first | show AWP _ _ _ _ _ | ((try simp only [j6]); first | show loopQ _ _ _ _ _ _ | show cutQ _ _ _ _ | show AWP _ _ _ _ _))) | ((first | refine x9 rfl rfl rfl ?_ | refine j9 rfl rfl rfl ?_); simp (maxSteps := 2000000) (disch := omega) only [go_sem, seval, hf, r1]; (first | refine ⟨_, ls, ?_⟩)) | ((first | refine q8 [] rfl ?_ | refine z8 [] rfl ?_); simp (maxSteps := 2000000) (disch := omega) only [go_sem, seval, hf, r1]; (repeat (first | refine ⟨by omega, ?_⟩ | refine ⟨True.intro, ?_⟩)))))
      refine ⟨⟨(i, d), by simp only []; omega, by simp only []; omega, lo, hi'⟩, by simp only []; omega, ?_⟩
      refine Weak.list ?_ ?_; (all_goals simp (disch := omega) only [AllF, AllL, j10, le_top, x10, exists_eq_left', Option.some.injEq, go_sem, seval, hf, r1]); (all_goals (repeat' (with_reducible apply And.intro))); (all_goals try (first | exact x8 rfl | (refine le_int ?_; omega) | (refine x8 ?_; simp; done)))
  · have : i = j := by omega
    subst this
    have hip : i = p := by
      rcases Nat.lt_trichotomy i p with h1 | h1 | h1
      · have := hp2 i h1; have := hi i (Nat.le_refl _) (by omega); omega
      · exact h1
      · have := lo p h1; have := hp3 p (Nat.le_refl _) (by omega); omega
    subst hip
    by_cases hn : i < l.length
    · have r1 := rowZ_at l i
      have hx := hi i (Nat.le_refl _) hn
      have hc : l.contains x = (l.getD i 0 == x) := by
        rw [Bool.eq_iff_iff, contains_at, beq_iff_eq]
        constructor
        · rintro ⟨k, k1, k2⟩
          rcases Nat.lt_trichotomy k i with h1 | h1 | h1
          · have := lo k h1; omega
          · rw [← h1]; exact k2
          · have := inc_lt hs h1 k1; omega
        · intro e; exact ⟨i, hn, e⟩
      rw [hc]
      generalize l.getD i 0 = y at r1 hx
      generalize hq : (y == x) = q
      cases q
      all_goals
        (repeat (first | refine q0 ?_ | refine x7 rfl ?_ | refine j7 rfl ?_ | refine z6 ?_ | (refine j0 fun K hK => ?_) | (refine x4 (by kernel_rfl) (by kernel_rfl) fun K hK => ?_) | ((first | refine q6 ?_ | refine x6 ?_ | ((first | refine q4 (hK _ ?_) | refine q5 (hK _ _ (j4 (by kernel_rfl)) ?_)); clear hK K)); (first | show AWP _ _ _ _ _ | ((try simp only [j6]); first | show loopQ _ _ _ _ _ _ | show cutQ _ _ _ _ | show AWP _ _ _ _ _))) | ((first | refine x9 rfl rfl rfl ?_ | refine j9 rfl rfl rfl ?_); simp (maxSteps := 2000000) (disch := omega) only [go_sem, seval, r1, hq]; (first | refine ⟨_, isNaN1_c y, ?_⟩ | refine ⟨_, isNaN1_c x, ?_⟩)) | ((first | refine q8 [] rfl ?_ | refine z8 [] rfl ?_); simp (maxSteps := 2000000) (disch := omega) only [go_sem, seval, r1, hq]; (repeat (first | refine ⟨by omega, ?_⟩ | refine ⟨True.intro, ?_⟩)))))
        refine q10 ⟨_, ?_, rfl⟩; rw [Try.results63]; simp (disch := omega) only [ResVars, ResVar, ptrLoc, go_sem, seval, r1, hq]
    · have hc : l.contains x = false := by
        rw [Bool.eq_false_iff]
        intro e
        obtain ⟨k, k1, k2⟩ := contains_at.1 e
        have := lo k (by omega)
        omega
      rw [hc]
      (repeat (first | refine q0 ?_ | refine x7 rfl ?_ | refine j7 rfl ?_ | refine z6 ?_ | (refine j0 fun K hK => ?_) | (refine x4 (by kernel_rfl) (by kernel_rfl) fun K hK => ?_) | ((first | refine q6 ?_ | refine x6 ?_ | ((first | refine q4 (hK _ ?_) | refine q5 (hK _ _ (j4 (by kernel_rfl)) ?_)); clear hK K)); (first | show AWP _ _ _ _ _ | ((try simp only [j6]); first | show loopQ _ _ _ _ _ _ | show cutQ _ _ _ _ | show AWP _ _ _ _ _))) | ((first | refine q8 [] rfl ?_ | refine z8 [] rfl ?_); simp (maxSteps := 2000000) (disch := omega) only [go_sem, seval]; (repeat (first | refine ⟨by omega, ?_⟩ | refine ⟨True.intro, ?_⟩)))))
      refine q10 ⟨_, ?_, rfl⟩; rw [Try.results63]; simp (disch := omega) only [ResVars, ResVar, ptrLoc, go_sem, seval]
theorem hasS_c (l : List Int) (x : Int) (hs : Inc l) (hl : l.length ≤ 1099511627776) : ACalls Try.prog 45 [.d (.sl 1 l.length (rowZ l)), .d (.v (.int .i64 x))] (· = [.d (.v (.bool (l.contains x)))]) := by
  obtain ⟨p, c⟩ := Search_c l x hs hl
  generalize l.contains x = b at c
  refine z10 Try.func45 rfl (by decide +kernel) (by rw [Try.ntmps45]; simp) ?_; rw [Try.ntmps45]; simp only [frOf]
  (repeat (first | refine q0 ?_ | refine x7 rfl ?_ | refine j7 rfl ?_ | refine z6 ?_ | (refine j0 fun K hK => ?_) | (refine x4 (by kernel_rfl) (by kernel_rfl) fun K hK => ?_) | ((first | refine q6 ?_ | refine x6 ?_ | ((first | refine q4 (hK _ ?_) | refine q5 (hK _ _ (j4 (by kernel_rfl)) ?_)); clear hK K)); (first | show AWP _ _ _ _ _ | ((try simp only [j6]); first | show loopQ _ _ _ _ _ _ | show cutQ _ _ _ _ | show AWP _ _ _ _ _))) | ((first | refine x9 rfl rfl rfl ?_ | refine j9 rfl rfl rfl ?_); simp (maxSteps := 2000000) (disch := omega) only [go_sem, seval]; (first | refine ⟨_, c, ?_⟩)) | ((first | refine q8 [] rfl ?_ | refine z8 [] rfl ?_); simp (maxSteps := 2000000) (disch := omega) only [go_sem, seval]; (repeat (first | refine ⟨by omega, ?_⟩ | refine ⟨True.intro, ?_⟩)))))
  refine q10 ⟨_, ?_, rfl⟩; rw [Try.results45]; simp (disch := omega) only [ResVars, ResVar, ptrLoc, go_sem, seval]
theorem lacksS_c (l : List Int) (x : Int) (hs : Inc l) (hl : l.length ≤ 1099511627776) : ACalls Try.prog 47 [.d (.sl 1 l.length (rowZ l)), .d (.v (.int .i64 x))] (· = [.d (.v (.bool (!l.contains x)))]) := by
  have c := hasS_c l x hs hl
  generalize l.contains x = b at c
  refine z10 Try.func47 rfl (by decide +kernel) (by rw [Try.ntmps47]; simp) ?_; rw [Try.ntmps47]; simp only [frOf]
  (repeat (first | refine q0 ?_ | refine x7 rfl ?_ | refine j7 rfl ?_ | refine z6 ?_ | (refine j0 fun K hK => ?_) | (refine x4 (by kernel_rfl) (by kernel_rfl) fun K hK => ?_) | ((first | refine q6 ?_ | refine x6 ?_ | ((first | refine q4 (hK _ ?_) | refine q5 (hK _ _ (j4 (by kernel_rfl)) ?_)); clear hK K)); (first | show AWP _ _ _ _ _ | ((try simp only [j6]); first | show loopQ _ _ _ _ _ _ | show cutQ _ _ _ _ | show AWP _ _ _ _ _))) | ((first | refine x9 rfl rfl rfl ?_ | refine j9 rfl rfl rfl ?_); simp (maxSteps := 2000000) (disch := omega) only [go_sem, seval]; (first | refine ⟨_, c, ?_⟩)) | ((first | refine q8 [] rfl ?_ | refine z8 [] rfl ?_); simp (maxSteps := 2000000) (disch := omega) only [go_sem, seval]; (repeat (first | refine ⟨by omega, ?_⟩ | refine ⟨True.intro, ?_⟩)))))
  refine q10 ⟨_, ?_, rfl⟩; rw [Try.results47]; simp (disch := omega) only [ResVars, ResVar, ptrLoc, go_sem, seval]
def pickI (l : List Int) (g : FuncId) (first : List PV) (p : Int → Bool) (s : {s : Nat × List Int // s.1 ≤ l.length ∧ s.2 = (l.take s.1).filter p ∧ s.2.length ≤ s.1}) : ASt :=
  ⟨[(10, .p (.d (.v (.int .i64 (s.val.1 : Int))))), (9, .p (.d (.v (.int .i64 (l.length : Int))))), (8, .p (.d (.sl 1 l.length (rowZ l)))), (5, .gr 5 s.val.2.length 1 s.val.2.length (rowZ s.val.2)), (1, .p (.fn (.func g) first []))], [(5, .grow 3 1 s.val.2.length s.val.2.length)]⟩
set_option maxRecDepth 100000 in
theorem pickS_c (l : List Int) (g : FuncId) (first : List PV) (p : Int → Bool) (hl : l.length ≤ 1099511627776) (hp : ∀ x ∈ l, ACalls Try.prog g (first ++ [.d (.v (.int .i64 x))]) (· = [.d (.v (.bool (p x)))])) :
    ACalls Try.prog 46 [.d (.sl 1 l.length (rowZ l)), .fn (.func g) first []] (· = [.d (.sl 1 (l.filter p).length (rowZ (l.filter p)))]) := by
  refine z10 Try.func46 rfl (by decide +kernel) (by rw [Try.ntmps46]; simp) ?_; rw [Try.ntmps46]; simp only [frOf]
  (repeat ((fail_if_success (show AWP _ _ (.region 2 _ _) _ _)); first | refine q0 ?_ | refine x7 rfl ?_ | refine j7 rfl ?_ | refine z6 ?_ | (refine j0 fun K hK => ?_) | (refine x4 (by kernel_rfl) (by kernel_rfl) fun K hK => ?_) | ((first | refine q6 ?_ | refine x6 ?_ | ((first | refine q4 (hK _ ?_) | refine q5 (hK _ _ (j4 (by kernel_rfl)) ?_)); clear hK K)); (first | show AWP _ _ _ _ _ | ((try simp only [j6]); first | show loopQ _ _ _ _ _ _ | show cutQ _ _ _ _ | show AWP _ _ _ _ _))) | ((first | refine q8 [] rfl ?_ | refine z8 [] rfl ?_); simp (maxSteps := 2000000) (disch := omega) only [go_sem, seval]; (repeat (first | refine ⟨by omega, ?_⟩ | refine ⟨True.intro, ?_⟩)))))
  refine awp_grow 5 5 1 3 (rowZ []) rfl (by kernel_rfl) rfl ?_
  (repeat (first | refine q0 ?_ | refine x7 rfl ?_ | refine j7 rfl ?_ | refine z6 ?_ | (refine j0 fun K hK => ?_) | (refine x4 (by kernel_rfl) (by kernel_rfl) fun K hK => ?_) | ((first | refine q6 ?_ | refine x6 ?_ | ((first | refine q4 (hK _ ?_) | refine q5 (hK _ _ (j4 (by kernel_rfl)) ?_)); clear hK K)); (first | show AWP _ _ _ _ _ | ((try simp only [j6]); first | show loopQ _ _ _ _ _ _ | show cutQ _ _ _ _ | show AWP _ _ _ _ _))) | ((first | refine q8 [] rfl ?_ | refine z8 [] rfl ?_); simp (maxSteps := 2000000) (disch := omega) only [go_sem, seval]; (repeat (first | refine ⟨by omega, ?_⟩ | refine ⟨True.intro, ?_⟩)))))
  refine awp_loop (pickI l g first p) (fun s => l.length - s.val.1) ⟨(0, []), by simp, by simp, by simp⟩ ?_ (fun s => ?_)
  · unfold pickI
    refine Weak.list ?_ ?_; (all_goals simp (disch := omega) only [AllF, AllL, j10, le_top, x10, exists_eq_left', Option.some.injEq, go_sem, seval]); (all_goals (repeat' (with_reducible apply And.intro))); (all_goals try (first | exact x8 rfl | (refine le_int ?_; omega) | (refine x8 ?_; simp; done)))
  obtain ⟨⟨i, out⟩, hi, he, ho⟩ := s
  unfold pickI
  simp only [] at hi he ho
  by_cases h : i < l.length
  · have r1 := rowZ_at l i
    have st := take_succ_getD l i 0 h
    have hin := hp _ (getD_in h 0)
    generalize l.getD i 0 = y at r1 st hin
    have so : (l.take (i + 1)).filter p = out ++ if p y then [y] else [] := by
      rw [st, List.filter_append, ← he]
      cases hq : p y <;> simp [hq]
    generalize p y = b at hin so
    have ap : first ++ [.d (.v (.int .i64 y))] ++ [] = first ++ [PV.d (.v (.int .i64 y))] := by simp
    cases b
    all_goals
      simp only [Bool.false_eq_true, if_false, if_true] at so
      (repeat (first | refine q0 ?_ | refine x7 rfl ?_ | refine j7 rfl ?_ | refine z6 ?_ | (refine j0 fun K hK => ?_) | (refine x4 (by kernel_rfl) (by kernel_rfl) fun K hK => ?_) | ((first | refine q6 ?_ | refine x6 ?_ | ((first | refine q4 (hK _ ?_) | refine q5 (hK _ _ (j4 (by kernel_rfl)) ?_)); clear hK K)); (first | show AWP _ _ _ _ _ | ((try simp only [j6]); first | show loopQ _ _ _ _ _ _ | show cutQ _ _ _ _ | show AWP _ _ _ _ _))) | ((first | refine x9 rfl rfl rfl ?_ | refine j9 rfl rfl rfl ?_); simp (maxSteps := 2000000) (disch := omega) only [go_sem, seval, r1]; (first | refine ⟨_, hin, ?_⟩)) | ((first | refine q8 [] rfl ?_ | refine z8 [] rfl ?_); simp (maxSteps := 2000000) (disch := omega) only [go_sem, seval, r1]; (repeat (first | refine ⟨by omega, ?_⟩ | refine ⟨True.intro, ?_⟩)))))
    · rw [List.append_nil] at so
      refine ⟨⟨(i + 1, out), by simp only []; omega, so.symm, by simp only []; omega⟩, by simp only []; omega, ?_⟩
      refine Weak.list ?_ ?_; (all_goals simp (disch := omega) only [AllF, AllL, j10, le_top, x10, exists_eq_left', Option.some.injEq, go_sem, seval, r1]); (all_goals (repeat' (with_reducible apply And.intro))); (all_goals try (first | exact x8 rfl | (refine le_int ?_; omega) | (refine x8 ?_; simp; done)))
    · refine ⟨⟨(i + 1, out ++ [y]), by simp only []; omega, so.symm, by simp; omega⟩, by simp only []; omega, ?_⟩
      refine Weak.list ?_ ?_; (all_goals simp (disch := omega) only [AllF, AllL, j10, le_top, x10, exists_eq_left', Option.some.injEq, go_sem, seval, r1]); (all_goals (repeat' (with_reducible apply And.intro))); (all_goals try (first | exact x8 rfl | (refine le_int ?_; omega) | (refine x8 ?_; simp; done)))
      · exact le_grgr (by simp) (by simp) (fun k hk => rowZ_put out y k hk)
      · exact lle_grow (by simp) (by simp)
  · have : i = l.length := by omega
    subst this
    rw [List.take_length] at he
    have cl := ClipZ_c out.length (rowZ out) (by omega)
    rw [← he]
    (repeat (first | refine q0 ?_ | refine x7 rfl ?_ | refine j7 rfl ?_ | refine z6 ?_ | (refine j0 fun K hK => ?_) | (refine x4 (by kernel_rfl) (by kernel_rfl) fun K hK => ?_) | ((first | refine q6 ?_ | refine x6 ?_ | ((first | refine q4 (hK _ ?_) | refine q5 (hK _ _ (j4 (by kernel_rfl)) ?_)); clear hK K)); (first | show AWP _ _ _ _ _ | ((try simp only [j6]); first | show loopQ _ _ _ _ _ _ | show cutQ _ _ _ _ | show AWP _ _ _ _ _))) | ((first | refine x9 rfl rfl rfl ?_ | refine j9 rfl rfl rfl ?_); simp (maxSteps := 2000000) (disch := omega) only [go_sem, seval]; (first | refine ⟨_, cl, ?_⟩)) | ((first | refine q8 [] rfl ?_ | refine z8 [] rfl ?_); simp (maxSteps := 2000000) (disch := omega) only [go_sem, seval]; (repeat (first | refine ⟨by omega, ?_⟩ | refine ⟨True.intro, ?_⟩)))))
    refine q10 ⟨_, ?_, rfl⟩; rw [Try.results46]; simp (disch := omega) only [ResVars, ResVar, ptrLoc, go_sem, seval]
end Go.Proofs.Ytemcdefpihkfpaa
set_option linter.unusedSimpArgs false
set_option linter.unusedVariables false
namespace Go.Proofs.Ytemcdefpihkfpaa
open Go.Proofs.Ytemcdefpihkfpaa.AL
theorem is_ints {N : Nat} {ds : List Dat} (h : Is N (.slice (.int .i64)) ds) : ∃ l : List Int, ds = [.sl 1 l.length (rowZ l)] ∧ l.length ≤ N := by
  obtain ⟨l, h1, h2, _⟩ := is_list (Q := fun _ => True) (fun n : Int => [Dat.v (.int .i64 n)]) 0 (.int .i64) rfl (fun ds hd => by
    obtain ⟨a, rfl, wa⟩ := hd
    exact ⟨a, rfl, trivial⟩) h
  exact ⟨l, h1, h2⟩
end Go.Proofs.Ytemcdefpihkfpaa
set_option linter.unusedSimpArgs false
set_option linter.unusedVariables false
namespace Go.Proofs.Ytemcdefpihkfpaa
open Go.Proofs.Ytemcdefpihkfpaa.AL
theorem less_c (x y : BitVec 128) : ACalls Try.prog 52 [.agg (hd x), .agg (hd y)] (· = [.agg (hd (x &&& ~~~y))]) := by
  refine z10 Try.func52 rfl (by decide +kernel) (by rw [Try.ntmps52]; simp) ?_; rw [Try.ntmps52]; simp only [frOf]
  (repeat refine q0 ?_); (first | refine j0 fun K hK => ?_ | refine x4 (by kernel_rfl) (by kernel_rfl) fun K hK => ?_); (first | refine q7 [] _ _ ?_ | refine z7 [] _ _ _ ?_); simp (maxSteps := 2000000) (disch := omega) only [go_sem, ↓reduceIte, reduceCtorEq, Nat.reduceLT, Nat.reducePow, Nat.reduceLeDiff, Nat.reduceAdd, Nat.reduceMul, Nat.reduceSub, Nat.reduceEqDiff, Nat.reduceBEq, Int.reduceToNat, Int.reduceBEq, Int.reduceBNe, hd]; (repeat refine ⟨by omega, ?_⟩); (first | (refine q4 (hK _ ?_); clear hK K; show AWP _ _ _ _ _) | (refine q5 (hK _ _ (j4 (by kernel_rfl)) ?_); clear hK K; show AWP _ _ _ _ _))
  (repeat refine q0 ?_); (first | refine j0 fun K hK => ?_ | refine x4 (by kernel_rfl) (by kernel_rfl) fun K hK => ?_); (first | refine q7 [] _ _ ?_ | refine z7 [] _ _ _ ?_); simp (maxSteps := 2000000) (disch := omega) only [go_sem, ↓reduceIte, reduceCtorEq, Nat.reduceLT, Nat.reducePow, Nat.reduceLeDiff, Nat.reduceAdd, Nat.reduceMul, Nat.reduceSub, Nat.reduceEqDiff, Nat.reduceBEq, Int.reduceToNat, Int.reduceBEq, Int.reduceBNe, hd]; (repeat refine ⟨by omega, ?_⟩); (first | (refine q4 (hK _ ?_); clear hK K; show AWP _ _ _ _ _) | (refine q5 (hK _ _ (j4 (by kernel_rfl)) ?_); clear hK K; show AWP _ _ _ _ _))
  refine q10 ⟨_, ?_, rfl⟩; rw [Try.results52]; simp (disch := omega) only [ResVars, ResVar, ptrLoc, go_sem, ↓reduceIte, reduceCtorEq, Nat.reduceLT, Nat.reducePow, Nat.reduceLeDiff, Nat.reduceAdd, Nat.reduceMul, Nat.reduceSub, Nat.reduceEqDiff, Nat.reduceBEq, Int.reduceToNat, Int.reduceBEq, Int.reduceBNe, hd]
  simp only [hi_less, lo_less, and_true]
theorem and_c (x y : BitVec 128) : ACalls Try.prog 70 [.agg (hd x), .agg (hd y)] (· = [.agg (hd (x &&& y))]) := by
  refine z10 Try.func70 rfl (by decide +kernel) (by rw [Try.ntmps70]; simp) ?_; rw [Try.ntmps70]; simp only [frOf]
  (repeat refine q0 ?_); (first | refine j0 fun K hK => ?_ | refine x4 (by kernel_rfl) (by kernel_rfl) fun K hK => ?_); (first | refine q7 [] _ _ ?_ | refine z7 [] _ _ _ ?_); simp (maxSteps := 2000000) (disch := omega) only [go_sem, ↓reduceIte, reduceCtorEq, Nat.reduceLT, Nat.reducePow, Nat.reduceLeDiff, Nat.reduceAdd, Nat.reduceMul, Nat.reduceSub, Nat.reduceEqDiff, Nat.reduceBEq, Int.reduceToNat, Int.reduceBEq, Int.reduceBNe, hd]; (repeat refine ⟨by omega, ?_⟩); (first | (refine q4 (hK _ ?_); clear hK K; show AWP _ _ _ _ _) | (refine q5 (hK _ _ (j4 (by kernel_rfl)) ?_); clear hK K; show AWP _ _ _ _ _))
  (repeat refine q0 ?_); (first | refine j0 fun K hK => ?_ | refine x4 (by kernel_rfl) (by kernel_rfl) fun K hK => ?_); (first | refine q7 [] _ _ ?_ | refine z7 [] _ _ _ ?_); simp (maxSteps := 2000000) (disch := omega) only [go_sem, ↓reduceIte, reduceCtorEq, Nat.reduceLT, Nat.reducePow, Nat.reduceLeDiff, Nat.reduceAdd, Nat.reduceMul, Nat.reduceSub, Nat.reduceEqDiff, Nat.reduceBEq, Int.reduceToNat, Int.reduceBEq, Int.reduceBNe, hd]; (repeat refine ⟨by omega, ?_⟩); (first | (refine q4 (hK _ ?_); clear hK K; show AWP _ _ _ _ _) | (refine q5 (hK _ _ (j4 (by kernel_rfl)) ?_); clear hK K; show AWP _ _ _ _ _))
  refine q10 ⟨_, ?_, rfl⟩; rw [Try.results70]; simp (disch := omega) only [ResVars, ResVar, ptrLoc, go_sem, ↓reduceIte, reduceCtorEq, Nat.reduceLT, Nat.reducePow, Nat.reduceLeDiff, Nat.reduceAdd, Nat.reduceMul, Nat.reduceSub, Nat.reduceEqDiff, Nat.reduceBEq, Int.reduceToNat, Int.reduceBEq, Int.reduceBNe, hd]
  simp only [hi_and, lo_and, and_true]
theorem or_c (x y : BitVec 128) : ACalls Try.prog 94 [.agg (hd x), .agg (hd y)] (· = [.agg (hd (x ||| y))]) := by
  refine z10 Try.func94 rfl (by decide +kernel) (by rw [Try.ntmps94]; simp) ?_; rw [Try.ntmps94]; simp only [frOf]
  (repeat refine q0 ?_); (first | refine j0 fun K hK => ?_ | refine x4 (by kernel_rfl) (by kernel_rfl) fun K hK => ?_); (first | refine q7 [] _ _ ?_ | refine z7 [] _ _ _ ?_); simp (maxSteps := 2000000) (disch := omega) only [go_sem, ↓reduceIte, reduceCtorEq, Nat.reduceLT, Nat.reducePow, Nat.reduceLeDiff, Nat.reduceAdd, Nat.reduceMul, Nat.reduceSub, Nat.reduceEqDiff, Nat.reduceBEq, Int.reduceToNat, Int.reduceBEq, Int.reduceBNe, hd]; (repeat refine ⟨by omega, ?_⟩); (first | (refine q4 (hK _ ?_); clear hK K; show AWP _ _ _ _ _) | (refine q5 (hK _ _ (j4 (by kernel_rfl)) ?_); clear hK K; show AWP _ _ _ _ _))
  (repeat refine q0 ?_); (first | refine j0 fun K hK => ?_ | refine x4 (by kernel_rfl) (by kernel_rfl) fun K hK => ?_); (first | refine q7 [] _ _ ?_ | refine z7 [] _ _ _ ?_); simp (maxSteps := 2000000) (disch := omega) only [go_sem, ↓reduceIte, reduceCtorEq, Nat.reduceLT, Nat.reducePow, Nat.reduceLeDiff, Nat.reduceAdd, Nat.reduceMul, Nat.reduceSub, Nat.reduceEqDiff, Nat.reduceBEq, Int.reduceToNat, Int.reduceBEq, Int.reduceBNe, hd]; (repeat refine ⟨by omega, ?_⟩); (first | (refine q4 (hK _ ?_); clear hK K; show AWP _ _ _ _ _) | (refine q5 (hK _ _ (j4 (by kernel_rfl)) ?_); clear hK K; show AWP _ _ _ _ _))
  refine q10 ⟨_, ?_, rfl⟩; rw [Try.results94]; simp (disch := omega) only [ResVars, ResVar, ptrLoc, go_sem, ↓reduceIte, reduceCtorEq, Nat.reduceLT, Nat.reducePow, Nat.reduceLeDiff, Nat.reduceAdd, Nat.reduceMul, Nat.reduceSub, Nat.reduceEqDiff, Nat.reduceBEq, Int.reduceToNat, Int.reduceBEq, Int.reduceBNe, hd]
  simp only [hi_or, lo_or, and_true]
theorem xor_c (x y : BitVec 128) : ACalls Try.prog 99 [.agg (hd x), .agg (hd y)] (· = [.agg (hd (x ^^^ y))]) := by
  refine z10 Try.func99 rfl (by decide +kernel) (by rw [Try.ntmps99]; simp) ?_; rw [Try.ntmps99]; simp only [frOf]
  (repeat refine q0 ?_); (first | refine j0 fun K hK => ?_ | refine x4 (by kernel_rfl) (by kernel_rfl) fun K hK => ?_); (first | refine q7 [] _ _ ?_ | refine z7 [] _ _ _ ?_); simp (maxSteps := 2000000) (disch := omega) only [go_sem, ↓reduceIte, reduceCtorEq, Nat.reduceLT, Nat.reducePow, Nat.reduceLeDiff, Nat.reduceAdd, Nat.reduceMul, Nat.reduceSub, Nat.reduceEqDiff, Nat.reduceBEq, Int.reduceToNat, Int.reduceBEq, Int.reduceBNe, hd]; (repeat refine ⟨by omega, ?_⟩); (first | (refine q4 (hK _ ?_); clear hK K; show AWP _ _ _ _ _) | (refine q5 (hK _ _ (j4 (by kernel_rfl)) ?_); clear hK K; show AWP _ _ _ _ _))
  (repeat refine q0 ?_); (first | refine j0 fun K hK => ?_ | refine x4 (by kernel_rfl) (by kernel_rfl) fun K hK => ?_); (first | refine q7 [] _ _ ?_ | refine z7 [] _ _ _ ?_); simp (maxSteps := 2000000) (disch := omega) only [go_sem, ↓reduceIte, reduceCtorEq, Nat.reduceLT, Nat.reducePow, Nat.reduceLeDiff, Nat.reduceAdd, Nat.reduceMul, Nat.reduceSub, Nat.reduceEqDiff, Nat.reduceBEq, Int.reduceToNat, Int.reduceBEq, Int.reduceBNe, hd]; (repeat refine ⟨by omega, ?_⟩); (first | (refine q4 (hK _ ?_); clear hK K; show AWP _ _ _ _ _) | (refine q5 (hK _ _ (j4 (by kernel_rfl)) ?_); clear hK K; show AWP _ _ _ _ _))
  refine q10 ⟨_, ?_, rfl⟩; rw [Try.results99]; simp (disch := omega) only [ResVars, ResVar, ptrLoc, go_sem, ↓reduceIte, reduceCtorEq, Nat.reduceLT, Nat.reducePow, Nat.reduceLeDiff, Nat.reduceAdd, Nat.reduceMul, Nat.reduceSub, Nat.reduceEqDiff, Nat.reduceBEq, Int.reduceToNat, Int.reduceBEq, Int.reduceBNe, hd]
  simp only [hi_xor, lo_xor, and_true]
theorem both_c (g : FuncId) (x y z : BitVec 128) (hg : ACalls Try.prog g [.agg (hd x), .agg (hd y)] (· = [.agg (hd z)])) : ACalls Try.prog 51 [.fn (.func g) [] [], .agg (hd x), .agg (hd y)] (· = [.agg (hd z)]) := by
  refine z10 Try.func51 rfl (by decide +kernel) (by rw [Try.ntmps51]; simp) ?_; rw [Try.ntmps51]; simp only [frOf]
  (repeat refine q0 ?_); (first | refine j0 fun K hK => ?_ | refine x4 (by kernel_rfl) (by kernel_rfl) fun K hK => ?_); (first | refine q7 [] _ _ ?_ | refine z7 [] _ _ _ ?_); simp (maxSteps := 2000000) (disch := omega) only [go_sem, ↓reduceIte, reduceCtorEq, Nat.reduceLT, Nat.reducePow, Nat.reduceLeDiff, Nat.reduceAdd, Nat.reduceMul, Nat.reduceSub, Nat.reduceEqDiff, Nat.reduceBEq, Int.reduceToNat, Int.reduceBEq, Int.reduceBNe, hd]; (repeat refine ⟨by omega, ?_⟩); (first | (refine q4 (hK _ ?_); clear hK K; show AWP _ _ _ _ _) | (refine q5 (hK _ _ (j4 (by kernel_rfl)) ?_); clear hK K; show AWP _ _ _ _ _))
  (repeat refine q0 ?_); (first | refine j0 fun K hK => ?_ | refine x4 (by kernel_rfl) (by kernel_rfl) fun K hK => ?_)
  (first | refine q7 [] _ _ ?_ | refine z7 [] _ _ _ ?_); simp (maxSteps := 2000000) (disch := omega) only [go_sem, ↓reduceIte, reduceCtorEq, Nat.reduceLT, Nat.reducePow, Nat.reduceLeDiff, Nat.reduceAdd, Nat.reduceMul, Nat.reduceSub, Nat.reduceEqDiff, Nat.reduceBEq, Int.reduceToNat, Int.reduceBEq, Int.reduceBNe, hd]; (repeat refine ⟨by omega, ?_⟩)
  (first | refine x9 rfl rfl rfl ?_ | refine j9 rfl rfl rfl ?_); simp (maxSteps := 2000000) (disch := omega) only [go_sem, ↓reduceIte, reduceCtorEq, Nat.reduceLT, Nat.reducePow, Nat.reduceLeDiff, Nat.reduceAdd, Nat.reduceMul, Nat.reduceSub, Nat.reduceEqDiff, Nat.reduceBEq, Int.reduceToNat, Int.reduceBEq, Int.reduceBNe, hd]
  refine ⟨_, hg, ?_⟩
  (first | refine q7 [] _ _ ?_ | refine z7 [] _ _ _ ?_); simp (maxSteps := 2000000) (disch := omega) only [go_sem, ↓reduceIte, reduceCtorEq, Nat.reduceLT, Nat.reducePow, Nat.reduceLeDiff, Nat.reduceAdd, Nat.reduceMul, Nat.reduceSub, Nat.reduceEqDiff, Nat.reduceBEq, Int.reduceToNat, Int.reduceBEq, Int.reduceBNe, hd]; (repeat refine ⟨by omega, ?_⟩)
  (first | (refine q4 (hK _ ?_); clear hK K; show AWP _ _ _ _ _) | (refine q5 (hK _ _ (j4 (by kernel_rfl)) ?_); clear hK K; show AWP _ _ _ _ _))
  refine q10 ⟨_, ?_, rfl⟩; rw [Try.results51]; simp (disch := omega) only [ResVars, ResVar, ptrLoc, go_sem, ↓reduceIte, reduceCtorEq, Nat.reduceLT, Nat.reducePow, Nat.reduceLeDiff, Nat.reduceAdd, Nat.reduceMul, Nat.reduceSub, Nat.reduceEqDiff, Nat.reduceBEq, Int.reduceToNat, Int.reduceBEq, Int.reduceBNe, hd]
theorem Less_c (x y : BitVec 128) : ACalls Try.prog 37 [.agg (hd x), .agg (hd y)] (· = [.agg (hd (x &&& ~~~y))]) := by
  refine z10 Try.func37 rfl (by decide +kernel) (by rw [Try.ntmps37]; simp) ?_; rw [Try.ntmps37]; simp only [frOf]
  (repeat refine q0 ?_); (first | refine j0 fun K hK => ?_ | refine x4 (by kernel_rfl) (by kernel_rfl) fun K hK => ?_); (first | refine q7 [] _ _ ?_ | refine z7 [] _ _ _ ?_); simp (maxSteps := 2000000) (disch := omega) only [go_sem, ↓reduceIte, reduceCtorEq, Nat.reduceLT, Nat.reducePow, Nat.reduceLeDiff, Nat.reduceAdd, Nat.reduceMul, Nat.reduceSub, Nat.reduceEqDiff, Nat.reduceBEq, Int.reduceToNat, Int.reduceBEq, Int.reduceBNe, hd]; (repeat refine ⟨by omega, ?_⟩); (first | (refine q4 (hK _ ?_); clear hK K; show AWP _ _ _ _ _) | (refine q5 (hK _ _ (j4 (by kernel_rfl)) ?_); clear hK K; show AWP _ _ _ _ _))
  (repeat refine q0 ?_); (first | refine j0 fun K hK => ?_ | refine x4 (by kernel_rfl) (by kernel_rfl) fun K hK => ?_)
  (first | refine q7 [] _ _ ?_ | refine z7 [] _ _ _ ?_); simp (maxSteps := 2000000) (disch := omega) only [go_sem, ↓reduceIte, reduceCtorEq, Nat.reduceLT, Nat.reducePow, Nat.reduceLeDiff, Nat.reduceAdd, Nat.reduceMul, Nat.reduceSub, Nat.reduceEqDiff, Nat.reduceBEq, Int.reduceToNat, Int.reduceBEq, Int.reduceBNe, hd]; (repeat refine ⟨by omega, ?_⟩)
  (first | refine x9 rfl rfl rfl ?_ | refine j9 rfl rfl rfl ?_); simp (maxSteps := 2000000) (disch := omega) only [go_sem, ↓reduceIte, reduceCtorEq, Nat.reduceLT, Nat.reducePow, Nat.reduceLeDiff, Nat.reduceAdd, Nat.reduceMul, Nat.reduceSub, Nat.reduceEqDiff, Nat.reduceBEq, Int.reduceToNat, Int.reduceBEq, Int.reduceBNe, hd]
  refine ⟨_, both_c _ _ _ _ (less_c x y), ?_⟩
  (first | refine q7 [] _ _ ?_ | refine z7 [] _ _ _ ?_); simp (maxSteps := 2000000) (disch := omega) only [go_sem, ↓reduceIte, reduceCtorEq, Nat.reduceLT, Nat.reducePow, Nat.reduceLeDiff, Nat.reduceAdd, Nat.reduceMul, Nat.reduceSub, Nat.reduceEqDiff, Nat.reduceBEq, Int.reduceToNat, Int.reduceBEq, Int.reduceBNe, hd]; (repeat refine ⟨by omega, ?_⟩)
  (first | (refine q4 (hK _ ?_); clear hK K; show AWP _ _ _ _ _) | (refine q5 (hK _ _ (j4 (by kernel_rfl)) ?_); clear hK K; show AWP _ _ _ _ _))
  refine q10 ⟨_, ?_, rfl⟩; rw [Try.results37]; simp (disch := omega) only [ResVars, ResVar, ptrLoc, go_sem, ↓reduceIte, reduceCtorEq, Nat.reduceLT, Nat.reducePow, Nat.reduceLeDiff, Nat.reduceAdd, Nat.reduceMul, Nat.reduceSub, Nat.reduceEqDiff, Nat.reduceBEq, Int.reduceToNat, Int.reduceBEq, Int.reduceBNe, hd]
theorem And_c (x y : BitVec 128) : ACalls Try.prog 58 [.agg (hd x), .agg (hd y)] (· = [.agg (hd (x &&& y))]) := by
  refine z10 Try.func58 rfl (by decide +kernel) (by rw [Try.ntmps58]; simp) ?_; rw [Try.ntmps58]; simp only [frOf]
  (repeat refine q0 ?_); (first | refine j0 fun K hK => ?_ | refine x4 (by kernel_rfl) (by kernel_rfl) fun K hK => ?_); (first | refine q7 [] _ _ ?_ | refine z7 [] _ _ _ ?_); simp (maxSteps := 2000000) (disch := omega) only [go_sem, ↓reduceIte, reduceCtorEq, Nat.reduceLT, Nat.reducePow, Nat.reduceLeDiff, Nat.reduceAdd, Nat.reduceMul, Nat.reduceSub, Nat.reduceEqDiff, Nat.reduceBEq, Int.reduceToNat, Int.reduceBEq, Int.reduceBNe, hd]; (repeat refine ⟨by omega, ?_⟩); (first | (refine q4 (hK _ ?_); clear hK K; show AWP _ _ _ _ _) | (refine q5 (hK _ _ (j4 (by kernel_rfl)) ?_); clear hK K; show AWP _ _ _ _ _))
  (repeat refine q0 ?_); (first | refine j0 fun K hK => ?_ | refine x4 (by kernel_rfl) (by kernel_rfl) fun K hK => ?_)
  (first | refine q7 [] _ _ ?_ | refine z7 [] _ _ _ ?_); simp (maxSteps := 2000000) (disch := omega) only [go_sem, ↓reduceIte, reduceCtorEq, Nat.reduceLT, Nat.reducePow, Nat.reduceLeDiff, Nat.reduceAdd, Nat.reduceMul, Nat.reduceSub, Nat.reduceEqDiff, Nat.reduceBEq, Int.reduceToNat, Int.reduceBEq, Int.reduceBNe, hd]; (repeat refine ⟨by omega, ?_⟩)
  (first | refine x9 rfl rfl rfl ?_ | refine j9 rfl rfl rfl ?_); simp (maxSteps := 2000000) (disch := omega) only [go_sem, ↓reduceIte, reduceCtorEq, Nat.reduceLT, Nat.reducePow, Nat.reduceLeDiff, Nat.reduceAdd, Nat.reduceMul, Nat.reduceSub, Nat.reduceEqDiff, Nat.reduceBEq, Int.reduceToNat, Int.reduceBEq, Int.reduceBNe, hd]
  refine ⟨_, both_c _ _ _ _ (and_c x y), ?_⟩
  (first | refine q7 [] _ _ ?_ | refine z7 [] _ _ _ ?_); simp (maxSteps := 2000000) (disch := omega) only [go_sem, ↓reduceIte, reduceCtorEq, Nat.reduceLT, Nat.reducePow, Nat.reduceLeDiff, Nat.reduceAdd, Nat.reduceMul, Nat.reduceSub, Nat.reduceEqDiff, Nat.reduceBEq, Int.reduceToNat, Int.reduceBEq, Int.reduceBNe, hd]; (repeat refine ⟨by omega, ?_⟩)
  (first | (refine q4 (hK _ ?_); clear hK K; show AWP _ _ _ _ _) | (refine q5 (hK _ _ (j4 (by kernel_rfl)) ?_); clear hK K; show AWP _ _ _ _ _))
  refine q10 ⟨_, ?_, rfl⟩; rw [Try.results58]; simp (disch := omega) only [ResVars, ResVar, ptrLoc, go_sem, ↓reduceIte, reduceCtorEq, Nat.reduceLT, Nat.reducePow, Nat.reduceLeDiff, Nat.reduceAdd, Nat.reduceMul, Nat.reduceSub, Nat.reduceEqDiff, Nat.reduceBEq, Int.reduceToNat, Int.reduceBEq, Int.reduceBNe, hd]
theorem Or_c (x y : BitVec 128) : ACalls Try.prog 77 [.agg (hd x), .agg (hd y)] (· = [.agg (hd (x ||| y))]) := by
  refine z10 Try.func77 rfl (by decide +kernel) (by rw [Try.ntmps77]; simp) ?_; rw [Try.ntmps77]; simp only [frOf]
  (repeat refine q0 ?_); (first | refine j0 fun K hK => ?_ | refine x4 (by kernel_rfl) (by kernel_rfl) fun K hK => ?_); (first | refine q7 [] _ _ ?_ | refine z7 [] _ _ _ ?_); simp (maxSteps := 2000000) (disch := omega) only [go_sem, ↓reduceIte, reduceCtorEq, Nat.reduceLT, Nat.reducePow, Nat.reduceLeDiff, Nat.reduceAdd, Nat.reduceMul, Nat.reduceSub, Nat.reduceEqDiff, Nat.reduceBEq, Int.reduceToNat, Int.reduceBEq, Int.reduceBNe, hd]; (repeat refine ⟨by omega, ?_⟩); (first | (refine q4 (hK _ ?_); clear hK K; show AWP _ _ _ _ _) | (refine q5 (hK _ _ (j4 (by kernel_rfl)) ?_); clear hK K; show AWP _ _ _ _ _))
  (repeat refine q0 ?_); (first | refine j0 fun K hK => ?_ | refine x4 (by kernel_rfl) (by kernel_rfl) fun K hK => ?_)
  (first | refine q7 [] _ _ ?_ | refine z7 [] _ _ _ ?_); simp (maxSteps := 2000000) (disch := omega) only [go_sem, ↓reduceIte, reduceCtorEq, Nat.reduceLT, Nat.reducePow, Nat.reduceLeDiff, Nat.reduceAdd, Nat.reduceMul, Nat.reduceSub, Nat.reduceEqDiff, Nat.reduceBEq, Int.reduceToNat, Int.reduceBEq, Int.reduceBNe, hd]; (repeat refine ⟨by omega, ?_⟩)
  (first | refine x9 rfl rfl rfl ?_ | refine j9 rfl rfl rfl ?_); simp (maxSteps := 2000000) (disch := omega) only [go_sem, ↓reduceIte, reduceCtorEq, Nat.reduceLT, Nat.reducePow, Nat.reduceLeDiff, Nat.reduceAdd, Nat.reduceMul, Nat.reduceSub, Nat.reduceEqDiff, Nat.reduceBEq, Int.reduceToNat, Int.reduceBEq, Int.reduceBNe, hd]
  refine ⟨_, both_c _ _ _ _ (or_c x y), ?_⟩
  (first | refine q7 [] _ _ ?_ | refine z7 [] _ _ _ ?_); simp (maxSteps := 2000000) (disch := omega) only [go_sem, ↓reduceIte, reduceCtorEq, Nat.reduceLT, Nat.reducePow, Nat.reduceLeDiff, Nat.reduceAdd, Nat.reduceMul, Nat.reduceSub, Nat.reduceEqDiff, Nat.reduceBEq, Int.reduceToNat, Int.reduceBEq, Int.reduceBNe, hd]; (repeat refine ⟨by omega, ?_⟩)
  (first | (refine q4 (hK _ ?_); clear hK K; show AWP _ _ _ _ _) | (refine q5 (hK _ _ (j4 (by kernel_rfl)) ?_); clear hK K; show AWP _ _ _ _ _))
  refine q10 ⟨_, ?_, rfl⟩; rw [Try.results77]; simp (disch := omega) only [ResVars, ResVar, ptrLoc, go_sem, ↓reduceIte, reduceCtorEq, Nat.reduceLT, Nat.reducePow, Nat.reduceLeDiff, Nat.reduceAdd, Nat.reduceMul, Nat.reduceSub, Nat.reduceEqDiff, Nat.reduceBEq, Int.reduceToNat, Int.reduceBEq, Int.reduceBNe, hd]
theorem Xor_c (x y : BitVec 128) : ACalls Try.prog 81 [.agg (hd x), .agg (hd y)] (· = [.agg (hd (x ^^^ y))]) := by
  refine z10 Try.func81 rfl (by decide +kernel) (by rw [Try.ntmps81]; simp) ?_; rw [Try.ntmps81]; simp only [frOf]
  (repeat refine q0 ?_); (first | refine j0 fun K hK => ?_ | refine x4 (by kernel_rfl) (by kernel_rfl) fun K hK => ?_); (first | refine q7 [] _ _ ?_ | refine z7 [] _ _ _ ?_); simp (maxSteps := 2000000) (disch := omega) only [go_sem, ↓reduceIte, reduceCtorEq, Nat.reduceLT, Nat.reducePow, Nat.reduceLeDiff, Nat.reduceAdd, Nat.reduceMul, Nat.reduceSub, Nat.reduceEqDiff, Nat.reduceBEq, Int.reduceToNat, Int.reduceBEq, Int.reduceBNe, hd]; (repeat refine ⟨by omega, ?_⟩); (first | (refine q4 (hK _ ?_); clear hK K; show AWP _ _ _ _ _) | (refine q5 (hK _ _ (j4 (by kernel_rfl)) ?_); clear hK K; show AWP _ _ _ _ _))
  (repeat refine q0 ?_); (first | refine j0 fun K hK => ?_ | refine x4 (by kernel_rfl) (by kernel_rfl) fun K hK => ?_)
  (first | refine q7 [] _ _ ?_ | refine z7 [] _ _ _ ?_); simp (maxSteps := 2000000) (disch := omega) only [go_sem, ↓reduceIte, reduceCtorEq, Nat.reduceLT, Nat.reducePow, Nat.reduceLeDiff, Nat.reduceAdd, Nat.reduceMul, Nat.reduceSub, Nat.reduceEqDiff, Nat.reduceBEq, Int.reduceToNat, Int.reduceBEq, Int.reduceBNe, hd]; (repeat refine ⟨by omega, ?_⟩)
  (first | refine x9 rfl rfl rfl ?_ | refine j9 rfl rfl rfl ?_); simp (maxSteps := 2000000) (disch := omega) only [go_sem, ↓reduceIte, reduceCtorEq, Nat.reduceLT, Nat.reducePow, Nat.reduceLeDiff, Nat.reduceAdd, Nat.reduceMul, Nat.reduceSub, Nat.reduceEqDiff, Nat.reduceBEq, Int.reduceToNat, Int.reduceBEq, Int.reduceBNe, hd]
  refine ⟨_, both_c _ _ _ _ (xor_c x y), ?_⟩
  (first | refine q7 [] _ _ ?_ | refine z7 [] _ _ _ ?_); simp (maxSteps := 2000000) (disch := omega) only [go_sem, ↓reduceIte, reduceCtorEq, Nat.reduceLT, Nat.reducePow, Nat.reduceLeDiff, Nat.reduceAdd, Nat.reduceMul, Nat.reduceSub, Nat.reduceEqDiff, Nat.reduceBEq, Int.reduceToNat, Int.reduceBEq, Int.reduceBNe, hd]; (repeat refine ⟨by omega, ?_⟩)
  (first | (refine q4 (hK _ ?_); clear hK K; show AWP _ _ _ _ _) | (refine q5 (hK _ _ (j4 (by kernel_rfl)) ?_); clear hK K; show AWP _ _ _ _ _))
  refine q10 ⟨_, ?_, rfl⟩; rw [Try.results81]; simp (disch := omega) only [ResVars, ResVar, ptrLoc, go_sem, ↓reduceIte, reduceCtorEq, Nat.reduceLT, Nat.reducePow, Nat.reduceLeDiff, Nat.reduceAdd, Nat.reduceMul, Nat.reduceSub, Nat.reduceEqDiff, Nat.reduceBEq, Int.reduceToNat, Int.reduceBEq, Int.reduceBNe, hd]
theorem right_c (x : BitVec 128) (n : Nat) (hn : n ≤ 128) : ACalls Try.prog 95 [.agg (hd x), .d (.v (.int .i64 (n : Int)))] (· = [.agg (hd (x >>> n))]) := by
  refine z10 Try.func95 rfl (by decide +kernel) (by rw [Try.ntmps95]; simp) ?_; rw [Try.ntmps95]; simp only [frOf]
  (repeat refine q0 ?_); (first | refine j0 fun K hK => ?_ | refine x4 (by kernel_rfl) (by kernel_rfl) fun K hK => ?_); (first | refine q7 [] _ _ ?_ | refine z7 [] _ _ _ ?_); simp (maxSteps := 2000000) (disch := omega) only [go_sem, ↓reduceIte, reduceCtorEq, Nat.reduceLT, Nat.reducePow, Nat.reduceLeDiff, Nat.reduceAdd, Nat.reduceMul, Nat.reduceSub, Nat.reduceEqDiff, Nat.reduceBEq, Int.reduceToNat, Int.reduceBEq, Int.reduceBNe, hd]; (repeat refine ⟨by omega, ?_⟩); (first | (refine q4 (hK _ ?_); clear hK K; show AWP _ _ _ _ _) | (refine q5 (hK _ _ (j4 (by kernel_rfl)) ?_); clear hK K; show AWP _ _ _ _ _))
  (repeat refine q0 ?_); (first | refine j0 fun K hK => ?_ | refine x4 (by kernel_rfl) (by kernel_rfl) fun K hK => ?_); (first | refine q7 [] _ _ ?_ | refine z7 [] _ _ _ ?_); simp (maxSteps := 2000000) (disch := omega) only [go_sem, ↓reduceIte, reduceCtorEq, Nat.reduceLT, Nat.reducePow, Nat.reduceLeDiff, Nat.reduceAdd, Nat.reduceMul, Nat.reduceSub, Nat.reduceEqDiff, Nat.reduceBEq, Int.reduceToNat, Int.reduceBEq, Int.reduceBNe, hd]; (repeat refine ⟨by omega, ?_⟩); (first | (refine q4 (hK _ ?_); clear hK K; show AWP _ _ _ _ _) | (refine q5 (hK _ _ (j4 (by kernel_rfl)) ?_); clear hK K; show AWP _ _ _ _ _))
  (repeat refine q0 ?_); refine awp_cond rfl (fun ht => ?_) (fun ht => ?_)
  · simp only [decide_eq_true_eq] at ht
    (repeat refine q0 ?_); (first | refine j0 fun K hK => ?_ | refine x4 (by kernel_rfl) (by kernel_rfl) fun K hK => ?_); (first | refine q7 [] _ _ ?_ | refine z7 [] _ _ _ ?_); simp (maxSteps := 2000000) (disch := omega) only [go_sem, ↓reduceIte, reduceCtorEq, Nat.reduceLT, Nat.reducePow, Nat.reduceLeDiff, Nat.reduceAdd, Nat.reduceMul, Nat.reduceSub, Nat.reduceEqDiff, Nat.reduceBEq, Int.reduceToNat, Int.reduceBEq, Int.reduceBNe, hd]; (repeat refine ⟨by omega, ?_⟩); (first | (refine q4 (hK _ ?_); clear hK K; show AWP _ _ _ _ _) | (refine q5 (hK _ _ (j4 (by kernel_rfl)) ?_); clear hK K; show AWP _ _ _ _ _))
    refine q10 ⟨_, ?_, rfl⟩; rw [Try.results95]; simp (disch := omega) only [ResVars, ResVar, ptrLoc, go_sem, ↓reduceIte, reduceCtorEq, Nat.reduceLT, Nat.reducePow, Nat.reduceLeDiff, Nat.reduceAdd, Nat.reduceMul, Nat.reduceSub, Nat.reduceEqDiff, Nat.reduceBEq, Int.reduceToNat, Int.reduceBEq, Int.reduceBNe, hd]
    rw [lo_shr_ge x n (by omega), ← hi_shr_ge x n (by omega)]
  · refine q6 ?_; show AWP _ _ _ _ _
    simp only [decide_eq_false_iff_not] at ht
    (repeat refine q0 ?_); (first | refine j0 fun K hK => ?_ | refine x4 (by kernel_rfl) (by kernel_rfl) fun K hK => ?_); (first | refine q7 [] _ _ ?_ | refine z7 [] _ _ _ ?_); simp (maxSteps := 2000000) (disch := omega) only [go_sem, ↓reduceIte, reduceCtorEq, Nat.reduceLT, Nat.reducePow, Nat.reduceLeDiff, Nat.reduceAdd, Nat.reduceMul, Nat.reduceSub, Nat.reduceEqDiff, Nat.reduceBEq, Int.reduceToNat, Int.reduceBEq, Int.reduceBNe, hd]; (repeat refine ⟨by omega, ?_⟩); (first | (refine q4 (hK _ ?_); clear hK K; show AWP _ _ _ _ _) | (refine q5 (hK _ _ (j4 (by kernel_rfl)) ?_); clear hK K; show AWP _ _ _ _ _))
    refine q10 ⟨_, ?_, rfl⟩; rw [Try.results95]; simp (disch := omega) only [ResVars, ResVar, ptrLoc, go_sem, ↓reduceIte, reduceCtorEq, Nat.reduceLT, Nat.reducePow, Nat.reduceLeDiff, Nat.reduceAdd, Nat.reduceMul, Nat.reduceSub, Nat.reduceEqDiff, Nat.reduceBEq, Int.reduceToNat, Int.reduceBEq, Int.reduceBNe, hd]
    rw [hi_shr_lt x n (by omega), bits_or_hl x n (by omega)]
theorem left_c (x : BitVec 128) (n : Nat) (hn : n ≤ 128) : ACalls Try.prog 98 [.agg (hd x), .d (.v (.int .i64 (n : Int)))] (· = [.agg (hd (x <<< n))]) := by
  refine z10 Try.func98 rfl (by decide +kernel) (by rw [Try.ntmps98]; simp) ?_; rw [Try.ntmps98]; simp only [frOf]
  (repeat refine q0 ?_); (first | refine j0 fun K hK => ?_ | refine x4 (by kernel_rfl) (by kernel_rfl) fun K hK => ?_); (first | refine q7 [] _ _ ?_ | refine z7 [] _ _ _ ?_); simp (maxSteps := 2000000) (disch := omega) only [go_sem, ↓reduceIte, reduceCtorEq, Nat.reduceLT, Nat.reducePow, Nat.reduceLeDiff, Nat.reduceAdd, Nat.reduceMul, Nat.reduceSub, Nat.reduceEqDiff, Nat.reduceBEq, Int.reduceToNat, Int.reduceBEq, Int.reduceBNe, hd]; (repeat refine ⟨by omega, ?_⟩); (first | (refine q4 (hK _ ?_); clear hK K; show AWP _ _ _ _ _) | (refine q5 (hK _ _ (j4 (by kernel_rfl)) ?_); clear hK K; show AWP _ _ _ _ _))
  (repeat refine q0 ?_); (first | refine j0 fun K hK => ?_ | refine x4 (by kernel_rfl) (by kernel_rfl) fun K hK => ?_); (first | refine q7 [] _ _ ?_ | refine z7 [] _ _ _ ?_); simp (maxSteps := 2000000) (disch := omega) only [go_sem, ↓reduceIte, reduceCtorEq, Nat.reduceLT, Nat.reducePow, Nat.reduceLeDiff, Nat.reduceAdd, Nat.reduceMul, Nat.reduceSub, Nat.reduceEqDiff, Nat.reduceBEq, Int.reduceToNat, Int.reduceBEq, Int.reduceBNe, hd]; (repeat refine ⟨by omega, ?_⟩); (first | (refine q4 (hK _ ?_); clear hK K; show AWP _ _ _ _ _) | (refine q5 (hK _ _ (j4 (by kernel_rfl)) ?_); clear hK K; show AWP _ _ _ _ _))
  (repeat refine q0 ?_); refine awp_cond rfl (fun ht => ?_) (fun ht => ?_)
  · simp only [decide_eq_true_eq] at ht
    (repeat refine q0 ?_); (first | refine j0 fun K hK => ?_ | refine x4 (by kernel_rfl) (by kernel_rfl) fun K hK => ?_); (first | refine q7 [] _ _ ?_ | refine z7 [] _ _ _ ?_); simp (maxSteps := 2000000) (disch := omega) only [go_sem, ↓reduceIte, reduceCtorEq, Nat.reduceLT, Nat.reducePow, Nat.reduceLeDiff, Nat.reduceAdd, Nat.reduceMul, Nat.reduceSub, Nat.reduceEqDiff, Nat.reduceBEq, Int.reduceToNat, Int.reduceBEq, Int.reduceBNe, hd]; (repeat refine ⟨by omega, ?_⟩); (first | (refine q4 (hK _ ?_); clear hK K; show AWP _ _ _ _ _) | (refine q5 (hK _ _ (j4 (by kernel_rfl)) ?_); clear hK K; show AWP _ _ _ _ _))
    refine q10 ⟨_, ?_, rfl⟩; rw [Try.results98]; simp (disch := omega) only [ResVars, ResVar, ptrLoc, go_sem, ↓reduceIte, reduceCtorEq, Nat.reduceLT, Nat.reducePow, Nat.reduceLeDiff, Nat.reduceAdd, Nat.reduceMul, Nat.reduceSub, Nat.reduceEqDiff, Nat.reduceBEq, Int.reduceToNat, Int.reduceBEq, Int.reduceBNe, hd]
    rw [hi_shl_ge x n (by omega), ← lo_shl_ge x n (by omega)]
  · refine q6 ?_; show AWP _ _ _ _ _
    simp only [decide_eq_false_iff_not] at ht
    (repeat refine q0 ?_); (first | refine j0 fun K hK => ?_ | refine x4 (by kernel_rfl) (by kernel_rfl) fun K hK => ?_); (first | refine q7 [] _ _ ?_ | refine z7 [] _ _ _ ?_); simp (maxSteps := 2000000) (disch := omega) only [go_sem, ↓reduceIte, reduceCtorEq, Nat.reduceLT, Nat.reducePow, Nat.reduceLeDiff, Nat.reduceAdd, Nat.reduceMul, Nat.reduceSub, Nat.reduceEqDiff, Nat.reduceBEq, Int.reduceToNat, Int.reduceBEq, Int.reduceBNe, hd]; (repeat refine ⟨by omega, ?_⟩); (first | (refine q4 (hK _ ?_); clear hK K; show AWP _ _ _ _ _) | (refine q5 (hK _ _ (j4 (by kernel_rfl)) ?_); clear hK K; show AWP _ _ _ _ _))
    refine q10 ⟨_, ?_, rfl⟩; rw [Try.results98]; simp (disch := omega) only [ResVars, ResVar, ptrLoc, go_sem, ↓reduceIte, reduceCtorEq, Nat.reduceLT, Nat.reducePow, Nat.reduceLeDiff, Nat.reduceAdd, Nat.reduceMul, Nat.reduceSub, Nat.reduceEqDiff, Nat.reduceBEq, Int.reduceToNat, Int.reduceBEq, Int.reduceBNe, hd]
    rw [bits_or_hr x n (by omega), lo_shl_lt x n (by omega)]
theorem field_c (a b m : Int) (hb : -9223372036854775808 ≤ b ∧ b < 9223372036854775808) (hm : m ≤ 128) : ACalls Try.prog 96 [.d (.v (.int .i64 a)), .d (.v (.int .i64 b)), .d (.v (.int .i64 m))] (· = [.d (.v (.bool (fieldB a b m)))]) := by
  have hh : ¬ 0 ≤ a ∨ (0 ≤ a ∧ ¬ 0 ≤ b) ∨ (0 ≤ a ∧ 0 ≤ b ∧ ¬ b ≤ m) ∨ (0 ≤ a ∧ 0 ≤ b ∧ b ≤ m ∧ ¬ a + b ≤ 128) ∨ (0 ≤ a ∧ 0 ≤ b ∧ b ≤ m ∧ a + b ≤ 128) := by omega
  rcases hh with h | h | h | h | h
  all_goals
    refine z10 Try.func96 rfl (by decide +kernel) (by rw [Try.ntmps96]; simp) ?_; rw [Try.ntmps96]; simp only [frOf]
    (repeat refine q0 ?_); (first | refine j0 fun K hK => ?_ | refine x4 (by kernel_rfl) (by kernel_rfl) fun K hK => ?_); (first | refine q7 [] _ _ ?_ | refine z7 [] _ _ _ ?_); simp (maxSteps := 2000000) (disch := omega) only [go_sem, ↓reduceIte, reduceCtorEq, Nat.reduceLT, Nat.reducePow, Nat.reduceLeDiff, Nat.reduceAdd, Nat.reduceMul, Nat.reduceSub, Nat.reduceEqDiff, Nat.reduceBEq, Int.reduceToNat, Int.reduceBEq, Int.reduceBNe, hd]; (repeat refine ⟨by omega, ?_⟩); (first | (refine q4 (hK _ ?_); clear hK K; show AWP _ _ _ _ _) | (refine q5 (hK _ _ (j4 (by kernel_rfl)) ?_); clear hK K; show AWP _ _ _ _ _))
    (repeat refine q0 ?_); (first | refine j0 fun K hK => ?_ | refine x4 (by kernel_rfl) (by kernel_rfl) fun K hK => ?_); (first | refine q7 [] _ _ ?_ | refine z7 [] _ _ _ ?_); simp (maxSteps := 2000000) (disch := omega) only [go_sem, ↓reduceIte, reduceCtorEq, Nat.reduceLT, Nat.reducePow, Nat.reduceLeDiff, Nat.reduceAdd, Nat.reduceMul, Nat.reduceSub, Nat.reduceEqDiff, Nat.reduceBEq, Int.reduceToNat, Int.reduceBEq, Int.reduceBNe, hd]; (repeat refine ⟨by omega, ?_⟩); (first | (refine q4 (hK _ ?_); clear hK K; show AWP _ _ _ _ _) | (refine q5 (hK _ _ (j4 (by kernel_rfl)) ?_); clear hK K; show AWP _ _ _ _ _))
    refine q10 ⟨_, ?_, rfl⟩; rw [Try.results96]; simp (disch := omega) only [ResVars, ResVar, ptrLoc, go_sem, ↓reduceIte, reduceCtorEq, Nat.reduceLT, Nat.reducePow, Nat.reduceLeDiff, Nat.reduceAdd, Nat.reduceMul, Nat.reduceSub, Nat.reduceEqDiff, Nat.reduceBEq, Int.reduceToNat, Int.reduceBEq, Int.reduceBNe, hd]
    simp only [fieldB, h, and_true, and_false, true_and, false_and, decide_true, decide_false]
def subE : Array Value → Sem Value := fun args => do
  let (x, y, b) ← Extern.MathBitsCarry.three "Sub64" args
  pure (Extern.MathBitsCarry.pair ((x + Extern.MathBitsCarry.m64 - y - b) % Extern.MathBitsCarry.m64) (if x < y + b then 1 else 0))
theorem sub_c (x : Nat) : ACalls Try.prog 105 [.d (.v (.int .u64 (x : Int))), .d (.v (.int .u64 1)), .d (.v (.int .u64 0))]
    (· = [.d (.v (.int .u64 (((x + 18446744073709551616 - 1) % 18446744073709551616 : Nat) : Int))), .d (.v (.int .u64 ((if x < 1 then 1 else 0 : Nat) : Int)))]) := by
  refine acalls_vals (xs := [.int .u64 (x : Int), .int .u64 1, .int .u64 0]) (v := .tuple #[.int .u64 (((x + 18446744073709551616 - 1) % 18446744073709551616 : Nat) : Int), .int .u64 ((if x < 1 then 1 else 0 : Nat) : Int)]) (fun w => ?_) (fun w g => ?_)
  · rw [run_callFunc_extern (fn := Try.f105) (by kernel_rfl) (by kernel_rfl) (by kernel_rfl) (by kernel_rfl) (e := subE) (by kernel_rfl)]
    rfl
  · exact ⟨[_, _], rfl, .cons (.d _ _ (.v _ rfl)) (.cons (.d _ _ (.v _ rfl)) (.nil w g))⟩
theorem low_c (n : Nat) (hn : n ≤ 128) : ACalls Try.prog 97 [.d (.v (.int .i64 (n : Int)))] (· = [.agg (hd (ones n))]) := by
  refine z10 Try.func97 rfl (by decide +kernel) (by rw [Try.ntmps97]; simp) ?_; rw [Try.ntmps97]; simp only [frOf]
  (repeat refine q0 ?_); (first | refine j0 fun K hK => ?_ | refine x4 (by kernel_rfl) (by kernel_rfl) fun K hK => ?_); (first | refine q7 [] _ _ ?_ | refine z7 [] _ _ _ ?_); simp (maxSteps := 2000000) (disch := omega) only [go_sem, ↓reduceIte, reduceCtorEq, Nat.reduceLT, Nat.reducePow, Nat.reduceLeDiff, Nat.reduceAdd, Nat.reduceMul, Nat.reduceSub, Nat.reduceEqDiff, Nat.reduceBEq, Int.reduceToNat, Int.reduceBEq, Int.reduceBNe, hd]; (repeat refine ⟨by omega, ?_⟩); (first | (refine q4 (hK _ ?_); clear hK K; show AWP _ _ _ _ _) | (refine q5 (hK _ _ (j4 (by kernel_rfl)) ?_); clear hK K; show AWP _ _ _ _ _))
  (repeat refine q0 ?_); (first | refine j0 fun K hK => ?_ | refine x4 (by kernel_rfl) (by kernel_rfl) fun K hK => ?_); (first | refine q7 [] _ _ ?_ | refine z7 [] _ _ _ ?_); simp (maxSteps := 2000000) (disch := omega) only [go_sem, ↓reduceIte, reduceCtorEq, Nat.reduceLT, Nat.reducePow, Nat.reduceLeDiff, Nat.reduceAdd, Nat.reduceMul, Nat.reduceSub, Nat.reduceEqDiff, Nat.reduceBEq, Int.reduceToNat, Int.reduceBEq, Int.reduceBNe, hd]; (repeat refine ⟨by omega, ?_⟩); (first | (refine q4 (hK _ ?_); clear hK K; show AWP _ _ _ _ _) | (refine q5 (hK _ _ (j4 (by kernel_rfl)) ?_); clear hK K; show AWP _ _ _ _ _))
  (repeat refine q0 ?_); refine awp_cond rfl (fun ht => ?_) (fun ht => ?_)
  · simp only [decide_eq_true_eq] at ht
    (repeat refine q0 ?_); (first | refine j0 fun K hK => ?_ | refine x4 (by kernel_rfl) (by kernel_rfl) fun K hK => ?_); (first | refine q7 [] _ _ ?_ | refine z7 [] _ _ _ ?_); simp (maxSteps := 2000000) (disch := omega) only [go_sem, ↓reduceIte, reduceCtorEq, Nat.reduceLT, Nat.reducePow, Nat.reduceLeDiff, Nat.reduceAdd, Nat.reduceMul, Nat.reduceSub, Nat.reduceEqDiff, Nat.reduceBEq, Int.reduceToNat, Int.reduceBEq, Int.reduceBNe, hd]; (repeat refine ⟨by omega, ?_⟩); (first | (refine q4 (hK _ ?_); clear hK K; show AWP _ _ _ _ _) | (refine q5 (hK _ _ (j4 (by kernel_rfl)) ?_); clear hK K; show AWP _ _ _ _ _))
    refine q10 ⟨_, ?_, rfl⟩; rw [Try.results97]; simp (disch := omega) only [ResVars, ResVar, ptrLoc, go_sem, ↓reduceIte, reduceCtorEq, Nat.reduceLT, Nat.reducePow, Nat.reduceLeDiff, Nat.reduceAdd, Nat.reduceMul, Nat.reduceSub, Nat.reduceEqDiff, Nat.reduceBEq, Int.reduceToNat, Int.reduceBEq, Int.reduceBNe, hd]
    have : n = 128 := by omega
    subst this
    rw [show hi (ones 128) = 18446744073709551615 from by decide, show lo (ones 128) = 18446744073709551615 from by decide]
  · refine q6 ?_; show AWP _ _ _ _ _
    simp only [decide_eq_false_iff_not] at ht
    (repeat refine q0 ?_); (first | refine j0 fun K hK => ?_ | refine x4 (by kernel_rfl) (by kernel_rfl) fun K hK => ?_)
    (first | refine q7 [] _ _ ?_ | refine z7 [] _ _ _ ?_); simp (maxSteps := 2000000) (disch := omega) only [go_sem, ↓reduceIte, reduceCtorEq, Nat.reduceLT, Nat.reducePow, Nat.reduceLeDiff, Nat.reduceAdd, Nat.reduceMul, Nat.reduceSub, Nat.reduceEqDiff, Nat.reduceBEq, Int.reduceToNat, Int.reduceBEq, Int.reduceBNe, hd]; (repeat refine ⟨by omega, ?_⟩)
    (first | refine x9 rfl rfl rfl ?_ | refine j9 rfl rfl rfl ?_); simp (maxSteps := 2000000) (disch := omega) only [go_sem, ↓reduceIte, reduceCtorEq, Nat.reduceLT, Nat.reducePow, Nat.reduceLeDiff, Nat.reduceAdd, Nat.reduceMul, Nat.reduceSub, Nat.reduceEqDiff, Nat.reduceBEq, Int.reduceToNat, Int.reduceBEq, Int.reduceBNe, hd]
    refine ⟨_, left_c 1 n hn, ?_⟩
    (first | refine q7 [] _ _ ?_ | refine z7 [] _ _ _ ?_); simp (maxSteps := 2000000) (disch := omega) only [go_sem, ↓reduceIte, reduceCtorEq, Nat.reduceLT, Nat.reducePow, Nat.reduceLeDiff, Nat.reduceAdd, Nat.reduceMul, Nat.reduceSub, Nat.reduceEqDiff, Nat.reduceBEq, Int.reduceToNat, Int.reduceBEq, Int.reduceBNe, hd]; (repeat refine ⟨by omega, ?_⟩)
    (first | (refine q4 (hK _ ?_); clear hK K; show AWP _ _ _ _ _) | (refine q5 (hK _ _ (j4 (by kernel_rfl)) ?_); clear hK K; show AWP _ _ _ _ _))
    (repeat refine q0 ?_); (first | refine j0 fun K hK => ?_ | refine x4 (by kernel_rfl) (by kernel_rfl) fun K hK => ?_)
    (first | refine q7 [] _ _ ?_ | refine z7 [] _ _ _ ?_); simp (maxSteps := 2000000) (disch := omega) only [go_sem, ↓reduceIte, reduceCtorEq, Nat.reduceLT, Nat.reducePow, Nat.reduceLeDiff, Nat.reduceAdd, Nat.reduceMul, Nat.reduceSub, Nat.reduceEqDiff, Nat.reduceBEq, Int.reduceToNat, Int.reduceBEq, Int.reduceBNe, hd]; (repeat refine ⟨by omega, ?_⟩)
    (first | refine x9 rfl rfl rfl ?_ | refine j9 rfl rfl rfl ?_); simp (maxSteps := 2000000) (disch := omega) only [go_sem, ↓reduceIte, reduceCtorEq, Nat.reduceLT, Nat.reducePow, Nat.reduceLeDiff, Nat.reduceAdd, Nat.reduceMul, Nat.reduceSub, Nat.reduceEqDiff, Nat.reduceBEq, Int.reduceToNat, Int.reduceBEq, Int.reduceBNe, hd]
    refine ⟨_, sub_c _, ?_⟩
    (first | refine q7 [] _ _ ?_ | refine z7 [] _ _ _ ?_); simp (maxSteps := 2000000) (disch := omega) only [go_sem, ↓reduceIte, reduceCtorEq, Nat.reduceLT, Nat.reducePow, Nat.reduceLeDiff, Nat.reduceAdd, Nat.reduceMul, Nat.reduceSub, Nat.reduceEqDiff, Nat.reduceBEq, Int.reduceToNat, Int.reduceBEq, Int.reduceBNe, hd]; (repeat refine ⟨by omega, ?_⟩)
    (first | (refine q4 (hK _ ?_); clear hK K; show AWP _ _ _ _ _) | (refine q5 (hK _ _ (j4 (by kernel_rfl)) ?_); clear hK K; show AWP _ _ _ _ _))
    (repeat refine q0 ?_); (first | refine j0 fun K hK => ?_ | refine x4 (by kernel_rfl) (by kernel_rfl) fun K hK => ?_); (first | refine q7 [] _ _ ?_ | refine z7 [] _ _ _ ?_); simp (maxSteps := 2000000) (disch := omega) only [go_sem, ↓reduceIte, reduceCtorEq, Nat.reduceLT, Nat.reducePow, Nat.reduceLeDiff, Nat.reduceAdd, Nat.reduceMul, Nat.reduceSub, Nat.reduceEqDiff, Nat.reduceBEq, Int.reduceToNat, Int.reduceBEq, Int.reduceBNe, hd]; (repeat refine ⟨by omega, ?_⟩); (first | (refine q4 (hK _ ?_); clear hK K; show AWP _ _ _ _ _) | (refine q5 (hK _ _ (j4 (by kernel_rfl)) ?_); clear hK K; show AWP _ _ _ _ _))
    refine q10 ⟨_, ?_, rfl⟩; rw [Try.results97]; simp (disch := omega) only [ResVars, ResVar, ptrLoc, go_sem, ↓reduceIte, reduceCtorEq, Nat.reduceLT, Nat.reducePow, Nat.reduceLeDiff, Nat.reduceAdd, Nat.reduceMul, Nat.reduceSub, Nat.reduceEqDiff, Nat.reduceBEq, Int.reduceToNat, Int.reduceBEq, Int.reduceBNe, hd]
    rw [low_lo n (by omega), low_hi n (by omega)]
theorem Bit_c (x : BitVec 128) (n : Int) : ACalls Try.prog 79 [.agg (hd x), .d (.v (.int .i64 n))] (· = [.d (.v (.bool (if 0 ≤ n ∧ n < 128 then x.getLsbD n.toNat else false)))]) := by
  have hh : ¬ 0 ≤ n ∨ (0 ≤ n ∧ ¬ n < 128) ∨ (0 ≤ n ∧ n < 128) := by omega
  rcases hh with h | h | h
  · refine z10 Try.func79 rfl (by decide +kernel) (by rw [Try.ntmps79]; simp) ?_; rw [Try.ntmps79]; simp only [frOf]
    (repeat refine q0 ?_); (first | refine j0 fun K hK => ?_ | refine x4 (by kernel_rfl) (by kernel_rfl) fun K hK => ?_); (first | refine q7 [] _ _ ?_ | refine z7 [] _ _ _ ?_); simp (maxSteps := 2000000) (disch := omega) only [go_sem, ↓reduceIte, reduceCtorEq, Nat.reduceLT, Nat.reducePow, Nat.reduceLeDiff, Nat.reduceAdd, Nat.reduceMul, Nat.reduceSub, Nat.reduceEqDiff, Nat.reduceBEq, Int.reduceToNat, Int.reduceBEq, Int.reduceBNe, hd]; (repeat refine ⟨by omega, ?_⟩); (first | (refine q4 (hK _ ?_); clear hK K; show AWP _ _ _ _ _) | (refine q5 (hK _ _ (j4 (by kernel_rfl)) ?_); clear hK K; show AWP _ _ _ _ _))
    (repeat refine q0 ?_); (first | refine j0 fun K hK => ?_ | refine x4 (by kernel_rfl) (by kernel_rfl) fun K hK => ?_); (first | refine q7 [] _ _ ?_ | refine z7 [] _ _ _ ?_); simp (maxSteps := 2000000) (disch := omega) only [go_sem, ↓reduceIte, reduceCtorEq, Nat.reduceLT, Nat.reducePow, Nat.reduceLeDiff, Nat.reduceAdd, Nat.reduceMul, Nat.reduceSub, Nat.reduceEqDiff, Nat.reduceBEq, Int.reduceToNat, Int.reduceBEq, Int.reduceBNe, hd]; (repeat refine ⟨by omega, ?_⟩); (first | (refine q4 (hK _ ?_); clear hK K; show AWP _ _ _ _ _) | (refine q5 (hK _ _ (j4 (by kernel_rfl)) ?_); clear hK K; show AWP _ _ _ _ _))
    refine q10 ⟨_, ?_, rfl⟩; rw [Try.results79]; simp (disch := omega) only [ResVars, ResVar, ptrLoc, go_sem, ↓reduceIte, reduceCtorEq, Nat.reduceLT, Nat.reducePow, Nat.reduceLeDiff, Nat.reduceAdd, Nat.reduceMul, Nat.reduceSub, Nat.reduceEqDiff, Nat.reduceBEq, Int.reduceToNat, Int.reduceBEq, Int.reduceBNe, hd]
    simp only [h, false_and, if_false]
  · refine z10 Try.func79 rfl (by decide +kernel) (by rw [Try.ntmps79]; simp) ?_; rw [Try.ntmps79]; simp only [frOf]
    (repeat refine q0 ?_); (first | refine j0 fun K hK => ?_ | refine x4 (by kernel_rfl) (by kernel_rfl) fun K hK => ?_); (first | refine q7 [] _ _ ?_ | refine z7 [] _ _ _ ?_); simp (maxSteps := 2000000) (disch := omega) only [go_sem, ↓reduceIte, reduceCtorEq, Nat.reduceLT, Nat.reducePow, Nat.reduceLeDiff, Nat.reduceAdd, Nat.reduceMul, Nat.reduceSub, Nat.reduceEqDiff, Nat.reduceBEq, Int.reduceToNat, Int.reduceBEq, Int.reduceBNe, hd]; (repeat refine ⟨by omega, ?_⟩); (first | (refine q4 (hK _ ?_); clear hK K; show AWP _ _ _ _ _) | (refine q5 (hK _ _ (j4 (by kernel_rfl)) ?_); clear hK K; show AWP _ _ _ _ _))
    (repeat refine q0 ?_); (first | refine j0 fun K hK => ?_ | refine x4 (by kernel_rfl) (by kernel_rfl) fun K hK => ?_); (first | refine q7 [] _ _ ?_ | refine z7 [] _ _ _ ?_); simp (maxSteps := 2000000) (disch := omega) only [go_sem, ↓reduceIte, reduceCtorEq, Nat.reduceLT, Nat.reducePow, Nat.reduceLeDiff, Nat.reduceAdd, Nat.reduceMul, Nat.reduceSub, Nat.reduceEqDiff, Nat.reduceBEq, Int.reduceToNat, Int.reduceBEq, Int.reduceBNe, hd]; (repeat refine ⟨by omega, ?_⟩); (first | (refine q4 (hK _ ?_); clear hK K; show AWP _ _ _ _ _) | (refine q5 (hK _ _ (j4 (by kernel_rfl)) ?_); clear hK K; show AWP _ _ _ _ _))
    refine q10 ⟨_, ?_, rfl⟩; rw [Try.results79]; simp (disch := omega) only [ResVars, ResVar, ptrLoc, go_sem, ↓reduceIte, reduceCtorEq, Nat.reduceLT, Nat.reducePow, Nat.reduceLeDiff, Nat.reduceAdd, Nat.reduceMul, Nat.reduceSub, Nat.reduceEqDiff, Nat.reduceBEq, Int.reduceToNat, Int.reduceBEq, Int.reduceBNe, hd]
    simp only [h, and_false, if_false]
  · refine z10 Try.func79 rfl (by decide +kernel) (by rw [Try.ntmps79]; simp) ?_; rw [Try.ntmps79]; simp only [frOf]
    (repeat refine q0 ?_); (first | refine j0 fun K hK => ?_ | refine x4 (by kernel_rfl) (by kernel_rfl) fun K hK => ?_); (first | refine q7 [] _ _ ?_ | refine z7 [] _ _ _ ?_); simp (maxSteps := 2000000) (disch := omega) only [go_sem, ↓reduceIte, reduceCtorEq, Nat.reduceLT, Nat.reducePow, Nat.reduceLeDiff, Nat.reduceAdd, Nat.reduceMul, Nat.reduceSub, Nat.reduceEqDiff, Nat.reduceBEq, Int.reduceToNat, Int.reduceBEq, Int.reduceBNe, hd]; (repeat refine ⟨by omega, ?_⟩); (first | (refine q4 (hK _ ?_); clear hK K; show AWP _ _ _ _ _) | (refine q5 (hK _ _ (j4 (by kernel_rfl)) ?_); clear hK K; show AWP _ _ _ _ _))
    (repeat refine q0 ?_); (first | refine j0 fun K hK => ?_ | refine x4 (by kernel_rfl) (by kernel_rfl) fun K hK => ?_)
    (first | refine q7 [] _ _ ?_ | refine z7 [] _ _ _ ?_); simp (maxSteps := 2000000) (disch := omega) only [go_sem, ↓reduceIte, reduceCtorEq, Nat.reduceLT, Nat.reducePow, Nat.reduceLeDiff, Nat.reduceAdd, Nat.reduceMul, Nat.reduceSub, Nat.reduceEqDiff, Nat.reduceBEq, Int.reduceToNat, Int.reduceBEq, Int.reduceBNe, hd]; (repeat refine ⟨by omega, ?_⟩)
    (first | refine x9 rfl rfl rfl ?_ | refine j9 rfl rfl rfl ?_); simp (maxSteps := 2000000) (disch := omega) only [go_sem, ↓reduceIte, reduceCtorEq, Nat.reduceLT, Nat.reducePow, Nat.reduceLeDiff, Nat.reduceAdd, Nat.reduceMul, Nat.reduceSub, Nat.reduceEqDiff, Nat.reduceBEq, Int.reduceToNat, Int.reduceBEq, Int.reduceBNe, hd]
    refine ⟨_, by have := right_c x n.toNat (by omega); rw [Int.toNat_of_nonneg h.1] at this; exact this, ?_⟩
    (first | refine q7 [] _ _ ?_ | refine z7 [] _ _ _ ?_); simp (maxSteps := 2000000) (disch := omega) only [go_sem, ↓reduceIte, reduceCtorEq, Nat.reduceLT, Nat.reducePow, Nat.reduceLeDiff, Nat.reduceAdd, Nat.reduceMul, Nat.reduceSub, Nat.reduceEqDiff, Nat.reduceBEq, Int.reduceToNat, Int.reduceBEq, Int.reduceBNe, hd]; (repeat refine ⟨by omega, ?_⟩)
    (first | (refine q4 (hK _ ?_); clear hK K; show AWP _ _ _ _ _) | (refine q5 (hK _ _ (j4 (by kernel_rfl)) ?_); clear hK K; show AWP _ _ _ _ _))
    refine q10 ⟨_, ?_, rfl⟩; rw [Try.results79]; simp (disch := omega) only [ResVars, ResVar, ptrLoc, go_sem, ↓reduceIte, reduceCtorEq, Nat.reduceLT, Nat.reducePow, Nat.reduceLeDiff, Nat.reduceAdd, Nat.reduceMul, Nat.reduceSub, Nat.reduceEqDiff, Nat.reduceBEq, Int.reduceToNat, Int.reduceBEq, Int.reduceBNe, hd]
    rw [bit_lo]; simp [h]
theorem Mask_c (a b : Int) (hb : -9223372036854775808 ≤ b ∧ b < 9223372036854775808) : ACalls Try.prog 80 [.d (.v (.int .i64 a)), .d (.v (.int .i64 b))]
    (· = [.agg (hd (if fieldB a b 128 then ones b.toNat <<< a.toNat else 0)), .d (.v (.int .i64 (if fieldB a b 128 then 0 else 1)))]) := by
  cases h : fieldB a b 128
  · refine z10 Try.func80 rfl (by decide +kernel) (by rw [Try.ntmps80]; simp) ?_; rw [Try.ntmps80]; simp only [frOf]
    (repeat refine q0 ?_); (first | refine j0 fun K hK => ?_ | refine x4 (by kernel_rfl) (by kernel_rfl) fun K hK => ?_); (first | refine q7 [] _ _ ?_ | refine z7 [] _ _ _ ?_); simp (maxSteps := 2000000) (disch := omega) only [go_sem, ↓reduceIte, reduceCtorEq, Nat.reduceLT, Nat.reducePow, Nat.reduceLeDiff, Nat.reduceAdd, Nat.reduceMul, Nat.reduceSub, Nat.reduceEqDiff, Nat.reduceBEq, Int.reduceToNat, Int.reduceBEq, Int.reduceBNe, hd, h]; (repeat refine ⟨by omega, ?_⟩); (first | (refine q4 (hK _ ?_); clear hK K; show AWP _ _ _ _ _) | (refine q5 (hK _ _ (j4 (by kernel_rfl)) ?_); clear hK K; show AWP _ _ _ _ _))
    (repeat refine q0 ?_); (first | refine j0 fun K hK => ?_ | refine x4 (by kernel_rfl) (by kernel_rfl) fun K hK => ?_)
    (first | refine q7 [] _ _ ?_ | refine z7 [] _ _ _ ?_); simp (maxSteps := 2000000) (disch := omega) only [go_sem, ↓reduceIte, reduceCtorEq, Nat.reduceLT, Nat.reducePow, Nat.reduceLeDiff, Nat.reduceAdd, Nat.reduceMul, Nat.reduceSub, Nat.reduceEqDiff, Nat.reduceBEq, Int.reduceToNat, Int.reduceBEq, Int.reduceBNe, hd, h]; (repeat refine ⟨by omega, ?_⟩)
    (first | refine x9 rfl rfl rfl ?_ | refine j9 rfl rfl rfl ?_); simp (maxSteps := 2000000) (disch := omega) only [go_sem, ↓reduceIte, reduceCtorEq, Nat.reduceLT, Nat.reducePow, Nat.reduceLeDiff, Nat.reduceAdd, Nat.reduceMul, Nat.reduceSub, Nat.reduceEqDiff, Nat.reduceBEq, Int.reduceToNat, Int.reduceBEq, Int.reduceBNe, hd, h]
    refine ⟨_, field_c a b 128 hb (by omega), ?_⟩
    (first | refine q7 [] _ _ ?_ | refine z7 [] _ _ _ ?_); simp (maxSteps := 2000000) (disch := omega) only [go_sem, ↓reduceIte, reduceCtorEq, Nat.reduceLT, Nat.reducePow, Nat.reduceLeDiff, Nat.reduceAdd, Nat.reduceMul, Nat.reduceSub, Nat.reduceEqDiff, Nat.reduceBEq, Int.reduceToNat, Int.reduceBEq, Int.reduceBNe, hd, h]; (repeat refine ⟨by omega, ?_⟩)
    (first | (refine q4 (hK _ ?_); clear hK K; show AWP _ _ _ _ _) | (refine q5 (hK _ _ (j4 (by kernel_rfl)) ?_); clear hK K; show AWP _ _ _ _ _))
    (repeat refine q0 ?_); refine awp_cond rfl (fun ht => ?_) (fun ht => ?_)
    · (repeat refine q0 ?_); (first | refine j0 fun K hK => ?_ | refine x4 (by kernel_rfl) (by kernel_rfl) fun K hK => ?_); (first | refine q7 [] _ _ ?_ | refine z7 [] _ _ _ ?_); simp (maxSteps := 2000000) (disch := omega) only [go_sem, ↓reduceIte, reduceCtorEq, Nat.reduceLT, Nat.reducePow, Nat.reduceLeDiff, Nat.reduceAdd, Nat.reduceMul, Nat.reduceSub, Nat.reduceEqDiff, Nat.reduceBEq, Int.reduceToNat, Int.reduceBEq, Int.reduceBNe, hd, h]; (repeat refine ⟨by omega, ?_⟩); (first | (refine q4 (hK _ ?_); clear hK K; show AWP _ _ _ _ _) | (refine q5 (hK _ _ (j4 (by kernel_rfl)) ?_); clear hK K; show AWP _ _ _ _ _))
      refine q10 ⟨_, ?_, rfl⟩; rw [Try.results80]; simp (disch := omega) only [ResVars, ResVar, ptrLoc, go_sem, ↓reduceIte, reduceCtorEq, Nat.reduceLT, Nat.reducePow, Nat.reduceLeDiff, Nat.reduceAdd, Nat.reduceMul, Nat.reduceSub, Nat.reduceEqDiff, Nat.reduceBEq, Int.reduceToNat, Int.reduceBEq, Int.reduceBNe, hd, h]
      rw [hi_zero, lo_zero]
    · exact absurd ht (by decide)
  · have hh := of_decide_eq_true h
    refine z10 Try.func80 rfl (by decide +kernel) (by rw [Try.ntmps80]; simp) ?_; rw [Try.ntmps80]; simp only [frOf]
    (repeat refine q0 ?_); (first | refine j0 fun K hK => ?_ | refine x4 (by kernel_rfl) (by kernel_rfl) fun K hK => ?_); (first | refine q7 [] _ _ ?_ | refine z7 [] _ _ _ ?_); simp (maxSteps := 2000000) (disch := omega) only [go_sem, ↓reduceIte, reduceCtorEq, Nat.reduceLT, Nat.reducePow, Nat.reduceLeDiff, Nat.reduceAdd, Nat.reduceMul, Nat.reduceSub, Nat.reduceEqDiff, Nat.reduceBEq, Int.reduceToNat, Int.reduceBEq, Int.reduceBNe, hd, h]; (repeat refine ⟨by omega, ?_⟩); (first | (refine q4 (hK _ ?_); clear hK K; show AWP _ _ _ _ _) | (refine q5 (hK _ _ (j4 (by kernel_rfl)) ?_); clear hK K; show AWP _ _ _ _ _))
    (repeat refine q0 ?_); (first | refine j0 fun K hK => ?_ | refine x4 (by kernel_rfl) (by kernel_rfl) fun K hK => ?_)
    (first | refine q7 [] _ _ ?_ | refine z7 [] _ _ _ ?_); simp (maxSteps := 2000000) (disch := omega) only [go_sem, ↓reduceIte, reduceCtorEq, Nat.reduceLT, Nat.reducePow, Nat.reduceLeDiff, Nat.reduceAdd, Nat.reduceMul, Nat.reduceSub, Nat.reduceEqDiff, Nat.reduceBEq, Int.reduceToNat, Int.reduceBEq, Int.reduceBNe, hd, h]; (repeat refine ⟨by omega, ?_⟩)
    (first | refine x9 rfl rfl rfl ?_ | refine j9 rfl rfl rfl ?_); simp (maxSteps := 2000000) (disch := omega) only [go_sem, ↓reduceIte, reduceCtorEq, Nat.reduceLT, Nat.reducePow, Nat.reduceLeDiff, Nat.reduceAdd, Nat.reduceMul, Nat.reduceSub, Nat.reduceEqDiff, Nat.reduceBEq, Int.reduceToNat, Int.reduceBEq, Int.reduceBNe, hd, h]
    refine ⟨_, field_c a b 128 hb (by omega), ?_⟩
    (first | refine q7 [] _ _ ?_ | refine z7 [] _ _ _ ?_); simp (maxSteps := 2000000) (disch := omega) only [go_sem, ↓reduceIte, reduceCtorEq, Nat.reduceLT, Nat.reducePow, Nat.reduceLeDiff, Nat.reduceAdd, Nat.reduceMul, Nat.reduceSub, Nat.reduceEqDiff, Nat.reduceBEq, Int.reduceToNat, Int.reduceBEq, Int.reduceBNe, hd, h]; (repeat refine ⟨by omega, ?_⟩)
    (first | (refine q4 (hK _ ?_); clear hK K; show AWP _ _ _ _ _) | (refine q5 (hK _ _ (j4 (by kernel_rfl)) ?_); clear hK K; show AWP _ _ _ _ _))
    (repeat refine q0 ?_); refine awp_cond rfl (fun ht => ?_) (fun ht => ?_)
    · exact absurd ht (by decide)
    · refine q6 ?_; show AWP _ _ _ _ _
      (repeat refine q0 ?_); (first | refine j0 fun K hK => ?_ | refine x4 (by kernel_rfl) (by kernel_rfl) fun K hK => ?_)
      (first | refine q7 [] _ _ ?_ | refine z7 [] _ _ _ ?_); simp (maxSteps := 2000000) (disch := omega) only [go_sem, ↓reduceIte, reduceCtorEq, Nat.reduceLT, Nat.reducePow, Nat.reduceLeDiff, Nat.reduceAdd, Nat.reduceMul, Nat.reduceSub, Nat.reduceEqDiff, Nat.reduceBEq, Int.reduceToNat, Int.reduceBEq, Int.reduceBNe, hd, h]; (repeat refine ⟨by omega, ?_⟩)
      (first | refine x9 rfl rfl rfl ?_ | refine j9 rfl rfl rfl ?_); simp (maxSteps := 2000000) (disch := omega) only [go_sem, ↓reduceIte, reduceCtorEq, Nat.reduceLT, Nat.reducePow, Nat.reduceLeDiff, Nat.reduceAdd, Nat.reduceMul, Nat.reduceSub, Nat.reduceEqDiff, Nat.reduceBEq, Int.reduceToNat, Int.reduceBEq, Int.reduceBNe, hd, h]
      refine ⟨_, by have := low_c b.toNat (by omega); rw [Int.toNat_of_nonneg hh.2.1] at this; exact this, ?_⟩
      (first | refine q7 [] _ _ ?_ | refine z7 [] _ _ _ ?_); simp (maxSteps := 2000000) (disch := omega) only [go_sem, ↓reduceIte, reduceCtorEq, Nat.reduceLT, Nat.reducePow, Nat.reduceLeDiff, Nat.reduceAdd, Nat.reduceMul, Nat.reduceSub, Nat.reduceEqDiff, Nat.reduceBEq, Int.reduceToNat, Int.reduceBEq, Int.reduceBNe, hd, h]; (repeat refine ⟨by omega, ?_⟩)
      (first | refine x9 rfl rfl rfl ?_ | refine j9 rfl rfl rfl ?_); simp (maxSteps := 2000000) (disch := omega) only [go_sem, ↓reduceIte, reduceCtorEq, Nat.reduceLT, Nat.reducePow, Nat.reduceLeDiff, Nat.reduceAdd, Nat.reduceMul, Nat.reduceSub, Nat.reduceEqDiff, Nat.reduceBEq, Int.reduceToNat, Int.reduceBEq, Int.reduceBNe, hd, h]
      refine ⟨_, by have := left_c (ones b.toNat) a.toNat (by omega); rw [Int.toNat_of_nonneg hh.1] at this; exact this, ?_⟩
      (first | refine q7 [] _ _ ?_ | refine z7 [] _ _ _ ?_); simp (maxSteps := 2000000) (disch := omega) only [go_sem, ↓reduceIte, reduceCtorEq, Nat.reduceLT, Nat.reducePow, Nat.reduceLeDiff, Nat.reduceAdd, Nat.reduceMul, Nat.reduceSub, Nat.reduceEqDiff, Nat.reduceBEq, Int.reduceToNat, Int.reduceBEq, Int.reduceBNe, hd, h]; (repeat refine ⟨by omega, ?_⟩)
      (first | (refine q4 (hK _ ?_); clear hK K; show AWP _ _ _ _ _) | (refine q5 (hK _ _ (j4 (by kernel_rfl)) ?_); clear hK K; show AWP _ _ _ _ _))
      refine q10 ⟨_, ?_, rfl⟩; rw [Try.results80]; simp (disch := omega) only [ResVars, ResVar, ptrLoc, go_sem, ↓reduceIte, reduceCtorEq, Nat.reduceLT, Nat.reducePow, Nat.reduceLeDiff, Nat.reduceAdd, Nat.reduceMul, Nat.reduceSub, Nat.reduceEqDiff, Nat.reduceBEq, Int.reduceToNat, Int.reduceBEq, Int.reduceBNe, hd, h]
end Go.Proofs.Ytemcdefpihkfpaa
set_option linter.unusedSimpArgs false
set_option linter.unusedVariables false
namespace Go.Proofs.Ytemcdefpihkfpaa
open Go.Proofs.Ytemcdefpihkfpaa.AL
theorem none_c (x : BitVec 128) : ACalls Try.prog 36 [.agg (hd x)] (· = [.d (.v (.bool (x == 0)))]) := by
  refine z10 Try.func36 rfl (by decide +kernel) (by rw [Try.ntmps36]; simp) ?_; rw [Try.ntmps36]; simp only [frOf]
  (repeat refine q0 ?_); (first | refine j0 fun K hK => ?_ | refine x4 (by kernel_rfl) (by kernel_rfl) fun K hK => ?_); (first | refine q7 [] _ _ ?_ | refine z7 [] _ _ _ ?_); simp (maxSteps := 2000000) (disch := omega) only [go_sem, ↓reduceIte, reduceCtorEq, Nat.reduceLT, Nat.reducePow, Nat.reduceLeDiff, Nat.reduceAdd, Nat.reduceMul, Nat.reduceSub, Nat.reduceEqDiff, Nat.reduceBEq, Int.reduceToNat, Int.reduceBEq, Int.reduceBNe, hd, cb, x5, j5, j8, q9]; (repeat refine ⟨by omega, ?_⟩); (first | (refine q4 (hK _ ?_); clear hK K; show AWP _ _ _ _ _) | (refine q5 (hK _ _ (j4 (by kernel_rfl)) ?_); clear hK K; show AWP _ _ _ _ _))
  (repeat refine q0 ?_); (first | refine j0 fun K hK => ?_ | refine x4 (by kernel_rfl) (by kernel_rfl) fun K hK => ?_); (first | refine q7 [] _ _ ?_ | refine z7 [] _ _ _ ?_); simp (maxSteps := 2000000) (disch := omega) only [go_sem, ↓reduceIte, reduceCtorEq, Nat.reduceLT, Nat.reducePow, Nat.reduceLeDiff, Nat.reduceAdd, Nat.reduceMul, Nat.reduceSub, Nat.reduceEqDiff, Nat.reduceBEq, Int.reduceToNat, Int.reduceBEq, Int.reduceBNe, hd, cb, x5, j5, j8, q9]; (repeat refine ⟨by omega, ?_⟩); (first | (refine q4 (hK _ ?_); clear hK K; show AWP _ _ _ _ _) | (refine q5 (hK _ _ (j4 (by kernel_rfl)) ?_); clear hK K; show AWP _ _ _ _ _))
  refine q10 ⟨_, ?_, rfl⟩; rw [Try.results36]; simp (disch := omega) only [ResVars, ResVar, ptrLoc, go_sem, ↓reduceIte, reduceCtorEq, Nat.reduceLT, Nat.reducePow, Nat.reduceLeDiff, Nat.reduceAdd, Nat.reduceMul, Nat.reduceSub, Nat.reduceEqDiff, Nat.reduceBEq, Int.reduceToNat, Int.reduceBEq, Int.reduceBNe, hd, cb, x5, j5, j8, q9]
theorem Sound_c (k : Cube) : ACalls Try.prog 16 [.agg (cb k)] (· = [.d (.v (.bool k.sound))]) := by
  refine z10 Try.func16 rfl (by decide +kernel) (by rw [Try.ntmps16]; simp) ?_; rw [Try.ntmps16]; simp only [frOf]
  (repeat refine q0 ?_); (first | refine j0 fun K hK => ?_ | refine x4 (by kernel_rfl) (by kernel_rfl) fun K hK => ?_); (first | refine q7 [] _ _ ?_ | refine z7 [] _ _ _ ?_); simp (maxSteps := 2000000) (disch := omega) only [go_sem, ↓reduceIte, reduceCtorEq, Nat.reduceLT, Nat.reducePow, Nat.reduceLeDiff, Nat.reduceAdd, Nat.reduceMul, Nat.reduceSub, Nat.reduceEqDiff, Nat.reduceBEq, Int.reduceToNat, Int.reduceBEq, Int.reduceBNe, hd, cb, x5, j5, j8, q9]; (repeat refine ⟨by omega, ?_⟩); (first | (refine q4 (hK _ ?_); clear hK K; show AWP _ _ _ _ _) | (refine q5 (hK _ _ (j4 (by kernel_rfl)) ?_); clear hK K; show AWP _ _ _ _ _))
  (repeat refine q0 ?_); (first | refine j0 fun K hK => ?_ | refine x4 (by kernel_rfl) (by kernel_rfl) fun K hK => ?_)
  (first | refine q7 [] _ _ ?_ | refine z7 [] _ _ _ ?_); simp (maxSteps := 2000000) (disch := omega) only [go_sem, ↓reduceIte, reduceCtorEq, Nat.reduceLT, Nat.reducePow, Nat.reduceLeDiff, Nat.reduceAdd, Nat.reduceMul, Nat.reduceSub, Nat.reduceEqDiff, Nat.reduceBEq, Int.reduceToNat, Int.reduceBEq, Int.reduceBNe, hd, cb, x5, j5, j8, q9]; (repeat refine ⟨by omega, ?_⟩)
  (first | refine x9 rfl rfl rfl ?_ | refine j9 rfl rfl rfl ?_); simp (maxSteps := 2000000) (disch := omega) only [go_sem, ↓reduceIte, reduceCtorEq, Nat.reduceLT, Nat.reducePow, Nat.reduceLeDiff, Nat.reduceAdd, Nat.reduceMul, Nat.reduceSub, Nat.reduceEqDiff, Nat.reduceBEq, Int.reduceToNat, Int.reduceBEq, Int.reduceBNe, hd, cb, x5, j5, j8, q9]
  refine ⟨_, Less_c k.v k.c, ?_⟩
  (first | refine q7 [] _ _ ?_ | refine z7 [] _ _ _ ?_); simp (maxSteps := 2000000) (disch := omega) only [go_sem, ↓reduceIte, reduceCtorEq, Nat.reduceLT, Nat.reducePow, Nat.reduceLeDiff, Nat.reduceAdd, Nat.reduceMul, Nat.reduceSub, Nat.reduceEqDiff, Nat.reduceBEq, Int.reduceToNat, Int.reduceBEq, Int.reduceBNe, hd, cb, x5, j5, j8, q9]; (repeat refine ⟨by omega, ?_⟩)
  (first | refine x9 rfl rfl rfl ?_ | refine j9 rfl rfl rfl ?_); simp (maxSteps := 2000000) (disch := omega) only [go_sem, ↓reduceIte, reduceCtorEq, Nat.reduceLT, Nat.reducePow, Nat.reduceLeDiff, Nat.reduceAdd, Nat.reduceMul, Nat.reduceSub, Nat.reduceEqDiff, Nat.reduceBEq, Int.reduceToNat, Int.reduceBEq, Int.reduceBNe, hd, cb, x5, j5, j8, q9]
  refine ⟨_, none_c _, ?_⟩
  (first | refine q7 [] _ _ ?_ | refine z7 [] _ _ _ ?_); simp (maxSteps := 2000000) (disch := omega) only [go_sem, ↓reduceIte, reduceCtorEq, Nat.reduceLT, Nat.reducePow, Nat.reduceLeDiff, Nat.reduceAdd, Nat.reduceMul, Nat.reduceSub, Nat.reduceEqDiff, Nat.reduceBEq, Int.reduceToNat, Int.reduceBEq, Int.reduceBNe, hd, cb, x5, j5, j8, q9]; (repeat refine ⟨by omega, ?_⟩)
  (first | (refine q4 (hK _ ?_); clear hK K; show AWP _ _ _ _ _) | (refine q5 (hK _ _ (j4 (by kernel_rfl)) ?_); clear hK K; show AWP _ _ _ _ _))
  refine q10 ⟨_, ?_, rfl⟩; rw [Try.results16]; simp (disch := omega) only [ResVars, ResVar, ptrLoc, go_sem, ↓reduceIte, reduceCtorEq, Nat.reduceLT, Nat.reducePow, Nat.reduceLeDiff, Nat.reduceAdd, Nat.reduceMul, Nat.reduceSub, Nat.reduceEqDiff, Nat.reduceBEq, Int.reduceToNat, Int.reduceBEq, Int.reduceBNe, hd, cb, x5, j5, j8, q9]
  (first | done | rfl | (refine ⟨?_, ?_⟩ <;> rfl))
theorem Has_c (k : Cube) (x : BitVec 128) : ACalls Try.prog 41 [.agg (cb k), .agg (hd x)] (· = [.d (.v (.bool (hasC k x)))]) := by
  unfold hasC
  cases h : k.sound
  · refine z10 Try.func41 rfl (by decide +kernel) (by rw [Try.ntmps41]; simp) ?_; rw [Try.ntmps41]; simp only [frOf]
    (repeat refine q0 ?_); (first | refine j0 fun K hK => ?_ | refine x4 (by kernel_rfl) (by kernel_rfl) fun K hK => ?_); (first | refine q7 [] _ _ ?_ | refine z7 [] _ _ _ ?_); simp (maxSteps := 2000000) (disch := omega) only [go_sem, ↓reduceIte, reduceCtorEq, Nat.reduceLT, Nat.reducePow, Nat.reduceLeDiff, Nat.reduceAdd, Nat.reduceMul, Nat.reduceSub, Nat.reduceEqDiff, Nat.reduceBEq, Int.reduceToNat, Int.reduceBEq, Int.reduceBNe, hd, cb, x5, j5, j8, q9, h]; (repeat refine ⟨by omega, ?_⟩); (first | (refine q4 (hK _ ?_); clear hK K; show AWP _ _ _ _ _) | (refine q5 (hK _ _ (j4 (by kernel_rfl)) ?_); clear hK K; show AWP _ _ _ _ _))
    (repeat refine q0 ?_); (first | refine j0 fun K hK => ?_ | refine x4 (by kernel_rfl) (by kernel_rfl) fun K hK => ?_)
    (first | refine q7 [] _ _ ?_ | refine z7 [] _ _ _ ?_); simp (maxSteps := 2000000) (disch := omega) only [go_sem, ↓reduceIte, reduceCtorEq, Nat.reduceLT, Nat.reducePow, Nat.reduceLeDiff, Nat.reduceAdd, Nat.reduceMul, Nat.reduceSub, Nat.reduceEqDiff, Nat.reduceBEq, Int.reduceToNat, Int.reduceBEq, Int.reduceBNe, hd, cb, x5, j5, j8, q9, h]; (repeat refine ⟨by omega, ?_⟩)
    (first | refine x9 rfl rfl rfl ?_ | refine j9 rfl rfl rfl ?_); simp (maxSteps := 2000000) (disch := omega) only [go_sem, ↓reduceIte, reduceCtorEq, Nat.reduceLT, Nat.reducePow, Nat.reduceLeDiff, Nat.reduceAdd, Nat.reduceMul, Nat.reduceSub, Nat.reduceEqDiff, Nat.reduceBEq, Int.reduceToNat, Int.reduceBEq, Int.reduceBNe, hd, cb, x5, j5, j8, q9, h]
    refine ⟨_, Sound_c k, ?_⟩
    (first | refine q7 [] _ _ ?_ | refine z7 [] _ _ _ ?_); simp (maxSteps := 2000000) (disch := omega) only [go_sem, ↓reduceIte, reduceCtorEq, Nat.reduceLT, Nat.reducePow, Nat.reduceLeDiff, Nat.reduceAdd, Nat.reduceMul, Nat.reduceSub, Nat.reduceEqDiff, Nat.reduceBEq, Int.reduceToNat, Int.reduceBEq, Int.reduceBNe, hd, cb, x5, j5, j8, q9, h]; (repeat refine ⟨by omega, ?_⟩)
    (first | (refine q4 (hK _ ?_); clear hK K; show AWP _ _ _ _ _) | (refine q5 (hK _ _ (j4 (by kernel_rfl)) ?_); clear hK K; show AWP _ _ _ _ _))
    refine q10 ⟨_, ?_, rfl⟩; rw [Try.results41]; simp (disch := omega) only [ResVars, ResVar, ptrLoc, go_sem, ↓reduceIte, reduceCtorEq, Nat.reduceLT, Nat.reducePow, Nat.reduceLeDiff, Nat.reduceAdd, Nat.reduceMul, Nat.reduceSub, Nat.reduceEqDiff, Nat.reduceBEq, Int.reduceToNat, Int.reduceBEq, Int.reduceBNe, hd, cb, x5, j5, j8, q9, h]
  · refine z10 Try.func41 rfl (by decide +kernel) (by rw [Try.ntmps41]; simp) ?_; rw [Try.ntmps41]; simp only [frOf]
    (repeat refine q0 ?_); (first | refine j0 fun K hK => ?_ | refine x4 (by kernel_rfl) (by kernel_rfl) fun K hK => ?_); (first | refine q7 [] _ _ ?_ | refine z7 [] _ _ _ ?_); simp (maxSteps := 2000000) (disch := omega) only [go_sem, ↓reduceIte, reduceCtorEq, Nat.reduceLT, Nat.reducePow, Nat.reduceLeDiff, Nat.reduceAdd, Nat.reduceMul, Nat.reduceSub, Nat.reduceEqDiff, Nat.reduceBEq, Int.reduceToNat, Int.reduceBEq, Int.reduceBNe, hd, cb, x5, j5, j8, q9, h]; (repeat refine ⟨by omega, ?_⟩); (first | (refine q4 (hK _ ?_); clear hK K; show AWP _ _ _ _ _) | (refine q5 (hK _ _ (j4 (by kernel_rfl)) ?_); clear hK K; show AWP _ _ _ _ _))
    (repeat refine q0 ?_); (first | refine j0 fun K hK => ?_ | refine x4 (by kernel_rfl) (by kernel_rfl) fun K hK => ?_)
    (first | refine q7 [] _ _ ?_ | refine z7 [] _ _ _ ?_); simp (maxSteps := 2000000) (disch := omega) only [go_sem, ↓reduceIte, reduceCtorEq, Nat.reduceLT, Nat.reducePow, Nat.reduceLeDiff, Nat.reduceAdd, Nat.reduceMul, Nat.reduceSub, Nat.reduceEqDiff, Nat.reduceBEq, Int.reduceToNat, Int.reduceBEq, Int.reduceBNe, hd, cb, x5, j5, j8, q9, h]; (repeat refine ⟨by omega, ?_⟩)
    (first | refine x9 rfl rfl rfl ?_ | refine j9 rfl rfl rfl ?_); simp (maxSteps := 2000000) (disch := omega) only [go_sem, ↓reduceIte, reduceCtorEq, Nat.reduceLT, Nat.reducePow, Nat.reduceLeDiff, Nat.reduceAdd, Nat.reduceMul, Nat.reduceSub, Nat.reduceEqDiff, Nat.reduceBEq, Int.reduceToNat, Int.reduceBEq, Int.reduceBNe, hd, cb, x5, j5, j8, q9, h]
    refine ⟨_, Sound_c k, ?_⟩
    (first | refine q7 [] _ _ ?_ | refine z7 [] _ _ _ ?_); simp (maxSteps := 2000000) (disch := omega) only [go_sem, ↓reduceIte, reduceCtorEq, Nat.reduceLT, Nat.reducePow, Nat.reduceLeDiff, Nat.reduceAdd, Nat.reduceMul, Nat.reduceSub, Nat.reduceEqDiff, Nat.reduceBEq, Int.reduceToNat, Int.reduceBEq, Int.reduceBNe, hd, cb, x5, j5, j8, q9, h]; (repeat refine ⟨by omega, ?_⟩)
    (first | refine x9 rfl rfl rfl ?_ | refine j9 rfl rfl rfl ?_); simp (maxSteps := 2000000) (disch := omega) only [go_sem, ↓reduceIte, reduceCtorEq, Nat.reduceLT, Nat.reducePow, Nat.reduceLeDiff, Nat.reduceAdd, Nat.reduceMul, Nat.reduceSub, Nat.reduceEqDiff, Nat.reduceBEq, Int.reduceToNat, Int.reduceBEq, Int.reduceBNe, hd, cb, x5, j5, j8, q9, h]
    refine ⟨_, And_c x k.c, ?_⟩
    (first | refine q7 [] _ _ ?_ | refine z7 [] _ _ _ ?_); simp (maxSteps := 2000000) (disch := omega) only [go_sem, ↓reduceIte, reduceCtorEq, Nat.reduceLT, Nat.reducePow, Nat.reduceLeDiff, Nat.reduceAdd, Nat.reduceMul, Nat.reduceSub, Nat.reduceEqDiff, Nat.reduceBEq, Int.reduceToNat, Int.reduceBEq, Int.reduceBNe, hd, cb, x5, j5, j8, q9, h]; (repeat refine ⟨by omega, ?_⟩)
    (first | (refine q4 (hK _ ?_); clear hK K; show AWP _ _ _ _ _) | (refine q5 (hK _ _ (j4 (by kernel_rfl)) ?_); clear hK K; show AWP _ _ _ _ _))
    refine q10 ⟨_, ?_, rfl⟩; rw [Try.results41]; simp (disch := omega) only [ResVars, ResVar, ptrLoc, go_sem, ↓reduceIte, reduceCtorEq, Nat.reduceLT, Nat.reducePow, Nat.reduceLeDiff, Nat.reduceAdd, Nat.reduceMul, Nat.reduceSub, Nat.reduceEqDiff, Nat.reduceBEq, Int.reduceToNat, Int.reduceBEq, Int.reduceBNe, hd, cb, x5, j5, j8, q9, h]
theorem apart_c (a b : Cube) : ACalls Try.prog 76 [.agg (cb a), .agg (cb b)] (· = [.agg (hd (apart a b))]) := by
  refine z10 Try.func76 rfl (by decide +kernel) (by rw [Try.ntmps76]; simp) ?_; rw [Try.ntmps76]; simp only [frOf]
  (repeat refine q0 ?_); (first | refine j0 fun K hK => ?_ | refine x4 (by kernel_rfl) (by kernel_rfl) fun K hK => ?_); (first | refine q7 [] _ _ ?_ | refine z7 [] _ _ _ ?_); simp (maxSteps := 2000000) (disch := omega) only [go_sem, ↓reduceIte, reduceCtorEq, Nat.reduceLT, Nat.reducePow, Nat.reduceLeDiff, Nat.reduceAdd, Nat.reduceMul, Nat.reduceSub, Nat.reduceEqDiff, Nat.reduceBEq, Int.reduceToNat, Int.reduceBEq, Int.reduceBNe, hd, cb, x5, j5, j8, q9]; (repeat refine ⟨by omega, ?_⟩); (first | (refine q4 (hK _ ?_); clear hK K; show AWP _ _ _ _ _) | (refine q5 (hK _ _ (j4 (by kernel_rfl)) ?_); clear hK K; show AWP _ _ _ _ _))
  (repeat refine q0 ?_); (first | refine j0 fun K hK => ?_ | refine x4 (by kernel_rfl) (by kernel_rfl) fun K hK => ?_)
  (first | refine q7 [] _ _ ?_ | refine z7 [] _ _ _ ?_); simp (maxSteps := 2000000) (disch := omega) only [go_sem, ↓reduceIte, reduceCtorEq, Nat.reduceLT, Nat.reducePow, Nat.reduceLeDiff, Nat.reduceAdd, Nat.reduceMul, Nat.reduceSub, Nat.reduceEqDiff, Nat.reduceBEq, Int.reduceToNat, Int.reduceBEq, Int.reduceBNe, hd, cb, x5, j5, j8, q9]; (repeat refine ⟨by omega, ?_⟩)
  (first | refine x9 rfl rfl rfl ?_ | refine j9 rfl rfl rfl ?_); simp (maxSteps := 2000000) (disch := omega) only [go_sem, ↓reduceIte, reduceCtorEq, Nat.reduceLT, Nat.reducePow, Nat.reduceLeDiff, Nat.reduceAdd, Nat.reduceMul, Nat.reduceSub, Nat.reduceEqDiff, Nat.reduceBEq, Int.reduceToNat, Int.reduceBEq, Int.reduceBNe, hd, cb, x5, j5, j8, q9]
  refine ⟨_, Xor_c a.v b.v, ?_⟩
  (first | refine q7 [] _ _ ?_ | refine z7 [] _ _ _ ?_); simp (maxSteps := 2000000) (disch := omega) only [go_sem, ↓reduceIte, reduceCtorEq, Nat.reduceLT, Nat.reducePow, Nat.reduceLeDiff, Nat.reduceAdd, Nat.reduceMul, Nat.reduceSub, Nat.reduceEqDiff, Nat.reduceBEq, Int.reduceToNat, Int.reduceBEq, Int.reduceBNe, hd, cb, x5, j5, j8, q9]; (repeat refine ⟨by omega, ?_⟩)
  (first | refine x9 rfl rfl rfl ?_ | refine j9 rfl rfl rfl ?_); simp (maxSteps := 2000000) (disch := omega) only [go_sem, ↓reduceIte, reduceCtorEq, Nat.reduceLT, Nat.reducePow, Nat.reduceLeDiff, Nat.reduceAdd, Nat.reduceMul, Nat.reduceSub, Nat.reduceEqDiff, Nat.reduceBEq, Int.reduceToNat, Int.reduceBEq, Int.reduceBNe, hd, cb, x5, j5, j8, q9]
  refine ⟨_, And_c a.c b.c, ?_⟩
  (first | refine q7 [] _ _ ?_ | refine z7 [] _ _ _ ?_); simp (maxSteps := 2000000) (disch := omega) only [go_sem, ↓reduceIte, reduceCtorEq, Nat.reduceLT, Nat.reducePow, Nat.reduceLeDiff, Nat.reduceAdd, Nat.reduceMul, Nat.reduceSub, Nat.reduceEqDiff, Nat.reduceBEq, Int.reduceToNat, Int.reduceBEq, Int.reduceBNe, hd, cb, x5, j5, j8, q9]; (repeat refine ⟨by omega, ?_⟩)
  (first | refine x9 rfl rfl rfl ?_ | refine j9 rfl rfl rfl ?_); simp (maxSteps := 2000000) (disch := omega) only [go_sem, ↓reduceIte, reduceCtorEq, Nat.reduceLT, Nat.reducePow, Nat.reduceLeDiff, Nat.reduceAdd, Nat.reduceMul, Nat.reduceSub, Nat.reduceEqDiff, Nat.reduceBEq, Int.reduceToNat, Int.reduceBEq, Int.reduceBNe, hd, cb, x5, j5, j8, q9]
  refine ⟨_, And_c _ _, ?_⟩
  (first | refine q7 [] _ _ ?_ | refine z7 [] _ _ _ ?_); simp (maxSteps := 2000000) (disch := omega) only [go_sem, ↓reduceIte, reduceCtorEq, Nat.reduceLT, Nat.reducePow, Nat.reduceLeDiff, Nat.reduceAdd, Nat.reduceMul, Nat.reduceSub, Nat.reduceEqDiff, Nat.reduceBEq, Int.reduceToNat, Int.reduceBEq, Int.reduceBNe, hd, cb, x5, j5, j8, q9]; (repeat refine ⟨by omega, ?_⟩)
  (first | (refine q4 (hK _ ?_); clear hK K; show AWP _ _ _ _ _) | (refine q5 (hK _ _ (j4 (by kernel_rfl)) ?_); clear hK K; show AWP _ _ _ _ _))
  refine q10 ⟨_, ?_, rfl⟩; rw [Try.results76]; simp (disch := omega) only [ResVars, ResVar, ptrLoc, go_sem, ↓reduceIte, reduceCtorEq, Nat.reduceLT, Nat.reducePow, Nat.reduceLeDiff, Nat.reduceAdd, Nat.reduceMul, Nat.reduceSub, Nat.reduceEqDiff, Nat.reduceBEq, Int.reduceToNat, Int.reduceBEq, Int.reduceBNe, hd, cb, x5, j5, j8, q9]
  (first | done | rfl | (refine ⟨?_, ?_⟩ <;> rfl))
theorem All_c : ACalls Try.prog 17 [] (· = [.agg (cb ⟨0, 0⟩)]) := by
  refine z10 Try.func17 rfl (by decide +kernel) (by rw [Try.ntmps17]; simp) ?_; rw [Try.ntmps17]; simp only [frOf]
  (repeat refine q0 ?_); (first | refine j0 fun K hK => ?_ | refine x4 (by kernel_rfl) (by kernel_rfl) fun K hK => ?_); (first | refine q7 [] _ _ ?_ | refine z7 [] _ _ _ ?_); simp (maxSteps := 2000000) (disch := omega) only [go_sem, ↓reduceIte, reduceCtorEq, Nat.reduceLT, Nat.reducePow, Nat.reduceLeDiff, Nat.reduceAdd, Nat.reduceMul, Nat.reduceSub, Nat.reduceEqDiff, Nat.reduceBEq, Int.reduceToNat, Int.reduceBEq, Int.reduceBNe, hd, cb, x5, j5, j8, q9]; (repeat refine ⟨by omega, ?_⟩); (first | (refine q4 (hK _ ?_); clear hK K; show AWP _ _ _ _ _) | (refine q5 (hK _ _ (j4 (by kernel_rfl)) ?_); clear hK K; show AWP _ _ _ _ _))
  (repeat refine q0 ?_); (first | refine j0 fun K hK => ?_ | refine x4 (by kernel_rfl) (by kernel_rfl) fun K hK => ?_); (first | refine q7 [] _ _ ?_ | refine z7 [] _ _ _ ?_); simp (maxSteps := 2000000) (disch := omega) only [go_sem, ↓reduceIte, reduceCtorEq, Nat.reduceLT, Nat.reducePow, Nat.reduceLeDiff, Nat.reduceAdd, Nat.reduceMul, Nat.reduceSub, Nat.reduceEqDiff, Nat.reduceBEq, Int.reduceToNat, Int.reduceBEq, Int.reduceBNe, hd, cb, x5, j5, j8, q9]; (repeat refine ⟨by omega, ?_⟩); (first | (refine q4 (hK _ ?_); clear hK K; show AWP _ _ _ _ _) | (refine q5 (hK _ _ (j4 (by kernel_rfl)) ?_); clear hK K; show AWP _ _ _ _ _))
  refine q10 ⟨_, ?_, rfl⟩; rw [Try.results17]; simp (disch := omega) only [ResVars, ResVar, ptrLoc, go_sem, ↓reduceIte, reduceCtorEq, Nat.reduceLT, Nat.reducePow, Nat.reduceLeDiff, Nat.reduceAdd, Nat.reduceMul, Nat.reduceSub, Nat.reduceEqDiff, Nat.reduceBEq, Int.reduceToNat, Int.reduceBEq, Int.reduceBNe, hd, cb, x5, j5, j8, q9]
  (first | done | rfl | (refine ⟨?_, ?_⟩ <;> rfl))
theorem Meet_c (a b : Cube) : ACalls Try.prog 66 [.agg (cb a), .agg (cb b)] (· = [.agg (cb (meetV a b)), .d (.v (.bool (meetO a b)))]) := by
  unfold meetV meetO
  cases h : a.sound
  · refine z10 Try.func66 rfl (by decide +kernel) (by rw [Try.ntmps66]; simp) ?_; rw [Try.ntmps66]; simp only [frOf]
    (repeat refine q0 ?_); (first | refine j0 fun K hK => ?_ | refine x4 (by kernel_rfl) (by kernel_rfl) fun K hK => ?_); (first | refine q7 [] _ _ ?_ | refine z7 [] _ _ _ ?_); simp (maxSteps := 2000000) (disch := omega) only [go_sem, ↓reduceIte, reduceCtorEq, Nat.reduceLT, Nat.reducePow, Nat.reduceLeDiff, Nat.reduceAdd, Nat.reduceMul, Nat.reduceSub, Nat.reduceEqDiff, Nat.reduceBEq, Int.reduceToNat, Int.reduceBEq, Int.reduceBNe, hd, cb, x5, j5, j8, q9, h]; (repeat refine ⟨by omega, ?_⟩); (first | (refine q4 (hK _ ?_); clear hK K; show AWP _ _ _ _ _) | (refine q5 (hK _ _ (j4 (by kernel_rfl)) ?_); clear hK K; show AWP _ _ _ _ _))
    (repeat refine q0 ?_); (first | refine j0 fun K hK => ?_ | refine x4 (by kernel_rfl) (by kernel_rfl) fun K hK => ?_)
    (first | refine q7 [] _ _ ?_ | refine z7 [] _ _ _ ?_); simp (maxSteps := 2000000) (disch := omega) only [go_sem, ↓reduceIte, reduceCtorEq, Nat.reduceLT, Nat.reducePow, Nat.reduceLeDiff, Nat.reduceAdd, Nat.reduceMul, Nat.reduceSub, Nat.reduceEqDiff, Nat.reduceBEq, Int.reduceToNat, Int.reduceBEq, Int.reduceBNe, hd, cb, x5, j5, j8, q9, h]; (repeat refine ⟨by omega, ?_⟩)
    (first | refine x9 rfl rfl rfl ?_ | refine j9 rfl rfl rfl ?_); simp (maxSteps := 2000000) (disch := omega) only [go_sem, ↓reduceIte, reduceCtorEq, Nat.reduceLT, Nat.reducePow, Nat.reduceLeDiff, Nat.reduceAdd, Nat.reduceMul, Nat.reduceSub, Nat.reduceEqDiff, Nat.reduceBEq, Int.reduceToNat, Int.reduceBEq, Int.reduceBNe, hd, cb, x5, j5, j8, q9, h]
    refine ⟨_, Sound_c a, ?_⟩
    (first | refine q7 [] _ _ ?_ | refine z7 [] _ _ _ ?_); simp (maxSteps := 2000000) (disch := omega) only [go_sem, ↓reduceIte, reduceCtorEq, Nat.reduceLT, Nat.reducePow, Nat.reduceLeDiff, Nat.reduceAdd, Nat.reduceMul, Nat.reduceSub, Nat.reduceEqDiff, Nat.reduceBEq, Int.reduceToNat, Int.reduceBEq, Int.reduceBNe, hd, cb, x5, j5, j8, q9, h]; (repeat refine ⟨by omega, ?_⟩)
    (first | (refine q4 (hK _ ?_); clear hK K; show AWP _ _ _ _ _) | (refine q5 (hK _ _ (j4 (by kernel_rfl)) ?_); clear hK K; show AWP _ _ _ _ _))
    (repeat refine q0 ?_); refine awp_cond rfl (fun _ => ?_) (fun ht => absurd ht (by decide))
    (repeat refine q0 ?_); (first | refine j0 fun K hK => ?_ | refine x4 (by kernel_rfl) (by kernel_rfl) fun K hK => ?_); (first | refine q7 [] _ _ ?_ | refine z7 [] _ _ _ ?_); simp (maxSteps := 2000000) (disch := omega) only [go_sem, ↓reduceIte, reduceCtorEq, Nat.reduceLT, Nat.reducePow, Nat.reduceLeDiff, Nat.reduceAdd, Nat.reduceMul, Nat.reduceSub, Nat.reduceEqDiff, Nat.reduceBEq, Int.reduceToNat, Int.reduceBEq, Int.reduceBNe, hd, cb, x5, j5, j8, q9, h]; (repeat refine ⟨by omega, ?_⟩); (first | (refine q4 (hK _ ?_); clear hK K; show AWP _ _ _ _ _) | (refine q5 (hK _ _ (j4 (by kernel_rfl)) ?_); clear hK K; show AWP _ _ _ _ _))
    refine q10 ⟨_, ?_, rfl⟩; rw [Try.results66]; simp (disch := omega) only [ResVars, ResVar, ptrLoc, go_sem, ↓reduceIte, reduceCtorEq, Nat.reduceLT, Nat.reducePow, Nat.reduceLeDiff, Nat.reduceAdd, Nat.reduceMul, Nat.reduceSub, Nat.reduceEqDiff, Nat.reduceBEq, Int.reduceToNat, Int.reduceBEq, Int.reduceBNe, hd, cb, x5, j5, j8, q9, h]
    (first | done | rfl | (refine ⟨?_, ?_⟩ <;> rfl))
  · cases h2 : b.sound
    · refine z10 Try.func66 rfl (by decide +kernel) (by rw [Try.ntmps66]; simp) ?_; rw [Try.ntmps66]; simp only [frOf]
      (repeat refine q0 ?_); (first | refine j0 fun K hK => ?_ | refine x4 (by kernel_rfl) (by kernel_rfl) fun K hK => ?_); (first | refine q7 [] _ _ ?_ | refine z7 [] _ _ _ ?_); simp (maxSteps := 2000000) (disch := omega) only [go_sem, ↓reduceIte, reduceCtorEq, Nat.reduceLT, Nat.reducePow, Nat.reduceLeDiff, Nat.reduceAdd, Nat.reduceMul, Nat.reduceSub, Nat.reduceEqDiff, Nat.reduceBEq, Int.reduceToNat, Int.reduceBEq, Int.reduceBNe, hd, cb, x5, j5, j8, q9, h, h2]; (repeat refine ⟨by omega, ?_⟩); (first | (refine q4 (hK _ ?_); clear hK K; show AWP _ _ _ _ _) | (refine q5 (hK _ _ (j4 (by kernel_rfl)) ?_); clear hK K; show AWP _ _ _ _ _))
      (repeat refine q0 ?_); (first | refine j0 fun K hK => ?_ | refine x4 (by kernel_rfl) (by kernel_rfl) fun K hK => ?_)
      (first | refine q7 [] _ _ ?_ | refine z7 [] _ _ _ ?_); simp (maxSteps := 2000000) (disch := omega) only [go_sem, ↓reduceIte, reduceCtorEq, Nat.reduceLT, Nat.reducePow, Nat.reduceLeDiff, Nat.reduceAdd, Nat.reduceMul, Nat.reduceSub, Nat.reduceEqDiff, Nat.reduceBEq, Int.reduceToNat, Int.reduceBEq, Int.reduceBNe, hd, cb, x5, j5, j8, q9, h, h2]; (repeat refine ⟨by omega, ?_⟩)
      (first | refine x9 rfl rfl rfl ?_ | refine j9 rfl rfl rfl ?_); simp (maxSteps := 2000000) (disch := omega) only [go_sem, ↓reduceIte, reduceCtorEq, Nat.reduceLT, Nat.reducePow, Nat.reduceLeDiff, Nat.reduceAdd, Nat.reduceMul, Nat.reduceSub, Nat.reduceEqDiff, Nat.reduceBEq, Int.reduceToNat, Int.reduceBEq, Int.reduceBNe, hd, cb, x5, j5, j8, q9, h, h2]
      refine ⟨_, Sound_c a, ?_⟩
      (first | refine q7 [] _ _ ?_ | refine z7 [] _ _ _ ?_); simp (maxSteps := 2000000) (disch := omega) only [go_sem, ↓reduceIte, reduceCtorEq, Nat.reduceLT, Nat.reducePow, Nat.reduceLeDiff, Nat.reduceAdd, Nat.reduceMul, Nat.reduceSub, Nat.reduceEqDiff, Nat.reduceBEq, Int.reduceToNat, Int.reduceBEq, Int.reduceBNe, hd, cb, x5, j5, j8, q9, h, h2]; (repeat refine ⟨by omega, ?_⟩)
      (first | refine x9 rfl rfl rfl ?_ | refine j9 rfl rfl rfl ?_); simp (maxSteps := 2000000) (disch := omega) only [go_sem, ↓reduceIte, reduceCtorEq, Nat.reduceLT, Nat.reducePow, Nat.reduceLeDiff, Nat.reduceAdd, Nat.reduceMul, Nat.reduceSub, Nat.reduceEqDiff, Nat.reduceBEq, Int.reduceToNat, Int.reduceBEq, Int.reduceBNe, hd, cb, x5, j5, j8, q9, h, h2]
      refine ⟨_, Sound_c b, ?_⟩
      (first | refine q7 [] _ _ ?_ | refine z7 [] _ _ _ ?_); simp (maxSteps := 2000000) (disch := omega) only [go_sem, ↓reduceIte, reduceCtorEq, Nat.reduceLT, Nat.reducePow, Nat.reduceLeDiff, Nat.reduceAdd, Nat.reduceMul, Nat.reduceSub, Nat.reduceEqDiff, Nat.reduceBEq, Int.reduceToNat, Int.reduceBEq, Int.reduceBNe, hd, cb, x5, j5, j8, q9, h, h2]; (repeat refine ⟨by omega, ?_⟩)
      (first | (refine q4 (hK _ ?_); clear hK K; show AWP _ _ _ _ _) | (refine q5 (hK _ _ (j4 (by kernel_rfl)) ?_); clear hK K; show AWP _ _ _ _ _))
      (repeat refine q0 ?_); refine awp_cond rfl (fun _ => ?_) (fun ht => absurd ht (by decide))
      (repeat refine q0 ?_); (first | refine j0 fun K hK => ?_ | refine x4 (by kernel_rfl) (by kernel_rfl) fun K hK => ?_); (first | refine q7 [] _ _ ?_ | refine z7 [] _ _ _ ?_); simp (maxSteps := 2000000) (disch := omega) only [go_sem, ↓reduceIte, reduceCtorEq, Nat.reduceLT, Nat.reducePow, Nat.reduceLeDiff, Nat.reduceAdd, Nat.reduceMul, Nat.reduceSub, Nat.reduceEqDiff, Nat.reduceBEq, Int.reduceToNat, Int.reduceBEq, Int.reduceBNe, hd, cb, x5, j5, j8, q9, h, h2]; (repeat refine ⟨by omega, ?_⟩); (first | (refine q4 (hK _ ?_); clear hK K; show AWP _ _ _ _ _) | (refine q5 (hK _ _ (j4 (by kernel_rfl)) ?_); clear hK K; show AWP _ _ _ _ _))
      refine q10 ⟨_, ?_, rfl⟩; rw [Try.results66]; simp (disch := omega) only [ResVars, ResVar, ptrLoc, go_sem, ↓reduceIte, reduceCtorEq, Nat.reduceLT, Nat.reducePow, Nat.reduceLeDiff, Nat.reduceAdd, Nat.reduceMul, Nat.reduceSub, Nat.reduceEqDiff, Nat.reduceBEq, Int.reduceToNat, Int.reduceBEq, Int.reduceBNe, hd, cb, x5, j5, j8, q9, h, h2]
      (first | done | rfl | (refine ⟨?_, ?_⟩ <;> rfl))
    · cases h3 : apart a b == 0
      all_goals
        refine z10 Try.func66 rfl (by decide +kernel) (by rw [Try.ntmps66]; simp) ?_; rw [Try.ntmps66]; simp only [frOf]
        (repeat refine q0 ?_); (first | refine j0 fun K hK => ?_ | refine x4 (by kernel_rfl) (by kernel_rfl) fun K hK => ?_); (first | refine q7 [] _ _ ?_ | refine z7 [] _ _ _ ?_); simp (maxSteps := 2000000) (disch := omega) only [go_sem, ↓reduceIte, reduceCtorEq, Nat.reduceLT, Nat.reducePow, Nat.reduceLeDiff, Nat.reduceAdd, Nat.reduceMul, Nat.reduceSub, Nat.reduceEqDiff, Nat.reduceBEq, Int.reduceToNat, Int.reduceBEq, Int.reduceBNe, hd, cb, x5, j5, j8, q9, h, h2, h3]; (repeat refine ⟨by omega, ?_⟩); (first | (refine q4 (hK _ ?_); clear hK K; show AWP _ _ _ _ _) | (refine q5 (hK _ _ (j4 (by kernel_rfl)) ?_); clear hK K; show AWP _ _ _ _ _))
        (repeat refine q0 ?_); (first | refine j0 fun K hK => ?_ | refine x4 (by kernel_rfl) (by kernel_rfl) fun K hK => ?_)
        (first | refine q7 [] _ _ ?_ | refine z7 [] _ _ _ ?_); simp (maxSteps := 2000000) (disch := omega) only [go_sem, ↓reduceIte, reduceCtorEq, Nat.reduceLT, Nat.reducePow, Nat.reduceLeDiff, Nat.reduceAdd, Nat.reduceMul, Nat.reduceSub, Nat.reduceEqDiff, Nat.reduceBEq, Int.reduceToNat, Int.reduceBEq, Int.reduceBNe, hd, cb, x5, j5, j8, q9, h, h2, h3]; (repeat refine ⟨by omega, ?_⟩)
        (first | refine x9 rfl rfl rfl ?_ | refine j9 rfl rfl rfl ?_); simp (maxSteps := 2000000) (disch := omega) only [go_sem, ↓reduceIte, reduceCtorEq, Nat.reduceLT, Nat.reducePow, Nat.reduceLeDiff, Nat.reduceAdd, Nat.reduceMul, Nat.reduceSub, Nat.reduceEqDiff, Nat.reduceBEq, Int.reduceToNat, Int.reduceBEq, Int.reduceBNe, hd, cb, x5, j5, j8, q9, h, h2, h3]
        refine ⟨_, Sound_c a, ?_⟩
        (first | refine q7 [] _ _ ?_ | refine z7 [] _ _ _ ?_); simp (maxSteps := 2000000) (disch := omega) only [go_sem, ↓reduceIte, reduceCtorEq, Nat.reduceLT, Nat.reducePow, Nat.reduceLeDiff, Nat.reduceAdd, Nat.reduceMul, Nat.reduceSub, Nat.reduceEqDiff, Nat.reduceBEq, Int.reduceToNat, Int.reduceBEq, Int.reduceBNe, hd, cb, x5, j5, j8, q9, h, h2, h3]; (repeat refine ⟨by omega, ?_⟩)
        (first | refine x9 rfl rfl rfl ?_ | refine j9 rfl rfl rfl ?_); simp (maxSteps := 2000000) (disch := omega) only [go_sem, ↓reduceIte, reduceCtorEq, Nat.reduceLT, Nat.reducePow, Nat.reduceLeDiff, Nat.reduceAdd, Nat.reduceMul, Nat.reduceSub, Nat.reduceEqDiff, Nat.reduceBEq, Int.reduceToNat, Int.reduceBEq, Int.reduceBNe, hd, cb, x5, j5, j8, q9, h, h2, h3]
        refine ⟨_, Sound_c b, ?_⟩
        (first | refine q7 [] _ _ ?_ | refine z7 [] _ _ _ ?_); simp (maxSteps := 2000000) (disch := omega) only [go_sem, ↓reduceIte, reduceCtorEq, Nat.reduceLT, Nat.reducePow, Nat.reduceLeDiff, Nat.reduceAdd, Nat.reduceMul, Nat.reduceSub, Nat.reduceEqDiff, Nat.reduceBEq, Int.reduceToNat, Int.reduceBEq, Int.reduceBNe, hd, cb, x5, j5, j8, q9, h, h2, h3]; (repeat refine ⟨by omega, ?_⟩)
        (first | refine x9 rfl rfl rfl ?_ | refine j9 rfl rfl rfl ?_); simp (maxSteps := 2000000) (disch := omega) only [go_sem, ↓reduceIte, reduceCtorEq, Nat.reduceLT, Nat.reducePow, Nat.reduceLeDiff, Nat.reduceAdd, Nat.reduceMul, Nat.reduceSub, Nat.reduceEqDiff, Nat.reduceBEq, Int.reduceToNat, Int.reduceBEq, Int.reduceBNe, hd, cb, x5, j5, j8, q9, h, h2, h3]
        refine ⟨_, apart_c a b, ?_⟩
        (first | refine q7 [] _ _ ?_ | refine z7 [] _ _ _ ?_); simp (maxSteps := 2000000) (disch := omega) only [go_sem, ↓reduceIte, reduceCtorEq, Nat.reduceLT, Nat.reducePow, Nat.reduceLeDiff, Nat.reduceAdd, Nat.reduceMul, Nat.reduceSub, Nat.reduceEqDiff, Nat.reduceBEq, Int.reduceToNat, Int.reduceBEq, Int.reduceBNe, hd, cb, x5, j5, j8, q9, h, h2, h3]; (repeat refine ⟨by omega, ?_⟩)
        (first | refine x9 rfl rfl rfl ?_ | refine j9 rfl rfl rfl ?_); simp (maxSteps := 2000000) (disch := omega) only [go_sem, ↓reduceIte, reduceCtorEq, Nat.reduceLT, Nat.reducePow, Nat.reduceLeDiff, Nat.reduceAdd, Nat.reduceMul, Nat.reduceSub, Nat.reduceEqDiff, Nat.reduceBEq, Int.reduceToNat, Int.reduceBEq, Int.reduceBNe, hd, cb, x5, j5, j8, q9, h, h2, h3]
        refine ⟨_, none_c _, ?_⟩
        (first | refine q7 [] _ _ ?_ | refine z7 [] _ _ _ ?_); simp (maxSteps := 2000000) (disch := omega) only [go_sem, ↓reduceIte, reduceCtorEq, Nat.reduceLT, Nat.reducePow, Nat.reduceLeDiff, Nat.reduceAdd, Nat.reduceMul, Nat.reduceSub, Nat.reduceEqDiff, Nat.reduceBEq, Int.reduceToNat, Int.reduceBEq, Int.reduceBNe, hd, cb, x5, j5, j8, q9, h, h2, h3]; (repeat refine ⟨by omega, ?_⟩)
        (first | (refine q4 (hK _ ?_); clear hK K; show AWP _ _ _ _ _) | (refine q5 (hK _ _ (j4 (by kernel_rfl)) ?_); clear hK K; show AWP _ _ _ _ _))
      · (repeat refine q0 ?_); refine awp_cond rfl (fun _ => ?_) (fun ht => absurd ht (by decide))
        (repeat refine q0 ?_); (first | refine j0 fun K hK => ?_ | refine x4 (by kernel_rfl) (by kernel_rfl) fun K hK => ?_); (first | refine q7 [] _ _ ?_ | refine z7 [] _ _ _ ?_); simp (maxSteps := 2000000) (disch := omega) only [go_sem, ↓reduceIte, reduceCtorEq, Nat.reduceLT, Nat.reducePow, Nat.reduceLeDiff, Nat.reduceAdd, Nat.reduceMul, Nat.reduceSub, Nat.reduceEqDiff, Nat.reduceBEq, Int.reduceToNat, Int.reduceBEq, Int.reduceBNe, hd, cb, x5, j5, j8, q9, h, h2, h3]; (repeat refine ⟨by omega, ?_⟩); (first | (refine q4 (hK _ ?_); clear hK K; show AWP _ _ _ _ _) | (refine q5 (hK _ _ (j4 (by kernel_rfl)) ?_); clear hK K; show AWP _ _ _ _ _))
        refine q10 ⟨_, ?_, rfl⟩; rw [Try.results66]; simp (disch := omega) only [ResVars, ResVar, ptrLoc, go_sem, ↓reduceIte, reduceCtorEq, Nat.reduceLT, Nat.reducePow, Nat.reduceLeDiff, Nat.reduceAdd, Nat.reduceMul, Nat.reduceSub, Nat.reduceEqDiff, Nat.reduceBEq, Int.reduceToNat, Int.reduceBEq, Int.reduceBNe, hd, cb, x5, j5, j8, q9, h, h2, h3]
        (first | done | rfl | (refine ⟨?_, ?_⟩ <;> rfl))
      · (repeat refine q0 ?_); refine awp_cond rfl (fun ht => absurd ht (by decide)) (fun _ => ?_); refine q6 ?_; show AWP _ _ _ _ _
        (repeat refine q0 ?_); (first | refine j0 fun K hK => ?_ | refine x4 (by kernel_rfl) (by kernel_rfl) fun K hK => ?_)
        (first | refine q7 [] _ _ ?_ | refine z7 [] _ _ _ ?_); simp (maxSteps := 2000000) (disch := omega) only [go_sem, ↓reduceIte, reduceCtorEq, Nat.reduceLT, Nat.reducePow, Nat.reduceLeDiff, Nat.reduceAdd, Nat.reduceMul, Nat.reduceSub, Nat.reduceEqDiff, Nat.reduceBEq, Int.reduceToNat, Int.reduceBEq, Int.reduceBNe, hd, cb, x5, j5, j8, q9, h, h2, h3]; (repeat refine ⟨by omega, ?_⟩)
        (first | refine x9 rfl rfl rfl ?_ | refine j9 rfl rfl rfl ?_); simp (maxSteps := 2000000) (disch := omega) only [go_sem, ↓reduceIte, reduceCtorEq, Nat.reduceLT, Nat.reducePow, Nat.reduceLeDiff, Nat.reduceAdd, Nat.reduceMul, Nat.reduceSub, Nat.reduceEqDiff, Nat.reduceBEq, Int.reduceToNat, Int.reduceBEq, Int.reduceBNe, hd, cb, x5, j5, j8, q9, h, h2, h3]
        refine ⟨_, Or_c a.v b.v, ?_⟩
        (first | refine q7 [] _ _ ?_ | refine z7 [] _ _ _ ?_); simp (maxSteps := 2000000) (disch := omega) only [go_sem, ↓reduceIte, reduceCtorEq, Nat.reduceLT, Nat.reducePow, Nat.reduceLeDiff, Nat.reduceAdd, Nat.reduceMul, Nat.reduceSub, Nat.reduceEqDiff, Nat.reduceBEq, Int.reduceToNat, Int.reduceBEq, Int.reduceBNe, hd, cb, x5, j5, j8, q9, h, h2, h3]; (repeat refine ⟨by omega, ?_⟩)
        (first | refine x9 rfl rfl rfl ?_ | refine j9 rfl rfl rfl ?_); simp (maxSteps := 2000000) (disch := omega) only [go_sem, ↓reduceIte, reduceCtorEq, Nat.reduceLT, Nat.reducePow, Nat.reduceLeDiff, Nat.reduceAdd, Nat.reduceMul, Nat.reduceSub, Nat.reduceEqDiff, Nat.reduceBEq, Int.reduceToNat, Int.reduceBEq, Int.reduceBNe, hd, cb, x5, j5, j8, q9, h, h2, h3]
        refine ⟨_, Or_c a.c b.c, ?_⟩
        (first | refine q7 [] _ _ ?_ | refine z7 [] _ _ _ ?_); simp (maxSteps := 2000000) (disch := omega) only [go_sem, ↓reduceIte, reduceCtorEq, Nat.reduceLT, Nat.reducePow, Nat.reduceLeDiff, Nat.reduceAdd, Nat.reduceMul, Nat.reduceSub, Nat.reduceEqDiff, Nat.reduceBEq, Int.reduceToNat, Int.reduceBEq, Int.reduceBNe, hd, cb, x5, j5, j8, q9, h, h2, h3]; (repeat refine ⟨by omega, ?_⟩)
        (first | (refine q4 (hK _ ?_); clear hK K; show AWP _ _ _ _ _) | (refine q5 (hK _ _ (j4 (by kernel_rfl)) ?_); clear hK K; show AWP _ _ _ _ _))
        refine q10 ⟨_, ?_, rfl⟩; rw [Try.results66]; simp (disch := omega) only [ResVars, ResVar, ptrLoc, go_sem, ↓reduceIte, reduceCtorEq, Nat.reduceLT, Nat.reducePow, Nat.reduceLeDiff, Nat.reduceAdd, Nat.reduceMul, Nat.reduceSub, Nat.reduceEqDiff, Nat.reduceBEq, Int.reduceToNat, Int.reduceBEq, Int.reduceBNe, hd, cb, x5, j5, j8, q9, h, h2, h3]
theorem Within_c (a b : Cube) : ACalls Try.prog 93 [.agg (cb a), .agg (cb b)] (· = [.d (.v (.bool (withinC a b)))]) := by
  unfold withinC
  cases h : a.sound
  · refine z10 Try.func93 rfl (by decide +kernel) (by rw [Try.ntmps93]; simp) ?_; rw [Try.ntmps93]; simp only [frOf]
    (repeat refine q0 ?_); (first | refine j0 fun K hK => ?_ | refine x4 (by kernel_rfl) (by kernel_rfl) fun K hK => ?_); (first | refine q7 [] _ _ ?_ | refine z7 [] _ _ _ ?_); simp (maxSteps := 2000000) (disch := omega) only [go_sem, ↓reduceIte, reduceCtorEq, Nat.reduceLT, Nat.reducePow, Nat.reduceLeDiff, Nat.reduceAdd, Nat.reduceMul, Nat.reduceSub, Nat.reduceEqDiff, Nat.reduceBEq, Int.reduceToNat, Int.reduceBEq, Int.reduceBNe, hd, cb, x5, j5, j8, q9, h]; (repeat refine ⟨by omega, ?_⟩); (first | (refine q4 (hK _ ?_); clear hK K; show AWP _ _ _ _ _) | (refine q5 (hK _ _ (j4 (by kernel_rfl)) ?_); clear hK K; show AWP _ _ _ _ _))
    (repeat refine q0 ?_); (first | refine j0 fun K hK => ?_ | refine x4 (by kernel_rfl) (by kernel_rfl) fun K hK => ?_)
    (first | refine q7 [] _ _ ?_ | refine z7 [] _ _ _ ?_); simp (maxSteps := 2000000) (disch := omega) only [go_sem, ↓reduceIte, reduceCtorEq, Nat.reduceLT, Nat.reducePow, Nat.reduceLeDiff, Nat.reduceAdd, Nat.reduceMul, Nat.reduceSub, Nat.reduceEqDiff, Nat.reduceBEq, Int.reduceToNat, Int.reduceBEq, Int.reduceBNe, hd, cb, x5, j5, j8, q9, h]; (repeat refine ⟨by omega, ?_⟩)
    (first | refine x9 rfl rfl rfl ?_ | refine j9 rfl rfl rfl ?_); simp (maxSteps := 2000000) (disch := omega) only [go_sem, ↓reduceIte, reduceCtorEq, Nat.reduceLT, Nat.reducePow, Nat.reduceLeDiff, Nat.reduceAdd, Nat.reduceMul, Nat.reduceSub, Nat.reduceEqDiff, Nat.reduceBEq, Int.reduceToNat, Int.reduceBEq, Int.reduceBNe, hd, cb, x5, j5, j8, q9, h]
    refine ⟨_, Sound_c a, ?_⟩
    (first | refine q7 [] _ _ ?_ | refine z7 [] _ _ _ ?_); simp (maxSteps := 2000000) (disch := omega) only [go_sem, ↓reduceIte, reduceCtorEq, Nat.reduceLT, Nat.reducePow, Nat.reduceLeDiff, Nat.reduceAdd, Nat.reduceMul, Nat.reduceSub, Nat.reduceEqDiff, Nat.reduceBEq, Int.reduceToNat, Int.reduceBEq, Int.reduceBNe, hd, cb, x5, j5, j8, q9, h]; (repeat refine ⟨by omega, ?_⟩)
    (first | (refine q4 (hK _ ?_); clear hK K; show AWP _ _ _ _ _) | (refine q5 (hK _ _ (j4 (by kernel_rfl)) ?_); clear hK K; show AWP _ _ _ _ _))
    refine q10 ⟨_, ?_, rfl⟩; rw [Try.results93]; simp (disch := omega) only [ResVars, ResVar, ptrLoc, go_sem, ↓reduceIte, reduceCtorEq, Nat.reduceLT, Nat.reducePow, Nat.reduceLeDiff, Nat.reduceAdd, Nat.reduceMul, Nat.reduceSub, Nat.reduceEqDiff, Nat.reduceBEq, Int.reduceToNat, Int.reduceBEq, Int.reduceBNe, hd, cb, x5, j5, j8, q9, h]
  · cases h2 : b.sound
    · refine z10 Try.func93 rfl (by decide +kernel) (by rw [Try.ntmps93]; simp) ?_; rw [Try.ntmps93]; simp only [frOf]
      (repeat refine q0 ?_); (first | refine j0 fun K hK => ?_ | refine x4 (by kernel_rfl) (by kernel_rfl) fun K hK => ?_); (first | refine q7 [] _ _ ?_ | refine z7 [] _ _ _ ?_); simp (maxSteps := 2000000) (disch := omega) only [go_sem, ↓reduceIte, reduceCtorEq, Nat.reduceLT, Nat.reducePow, Nat.reduceLeDiff, Nat.reduceAdd, Nat.reduceMul, Nat.reduceSub, Nat.reduceEqDiff, Nat.reduceBEq, Int.reduceToNat, Int.reduceBEq, Int.reduceBNe, hd, cb, x5, j5, j8, q9, h, h2]; (repeat refine ⟨by omega, ?_⟩); (first | (refine q4 (hK _ ?_); clear hK K; show AWP _ _ _ _ _) | (refine q5 (hK _ _ (j4 (by kernel_rfl)) ?_); clear hK K; show AWP _ _ _ _ _))
      (repeat refine q0 ?_); (first | refine j0 fun K hK => ?_ | refine x4 (by kernel_rfl) (by kernel_rfl) fun K hK => ?_)
      (first | refine q7 [] _ _ ?_ | refine z7 [] _ _ _ ?_); simp (maxSteps := 2000000) (disch := omega) only [go_sem, ↓reduceIte, reduceCtorEq, Nat.reduceLT, Nat.reducePow, Nat.reduceLeDiff, Nat.reduceAdd, Nat.reduceMul, Nat.reduceSub, Nat.reduceEqDiff, Nat.reduceBEq, Int.reduceToNat, Int.reduceBEq, Int.reduceBNe, hd, cb, x5, j5, j8, q9, h, h2]; (repeat refine ⟨by omega, ?_⟩)
      (first | refine x9 rfl rfl rfl ?_ | refine j9 rfl rfl rfl ?_); simp (maxSteps := 2000000) (disch := omega) only [go_sem, ↓reduceIte, reduceCtorEq, Nat.reduceLT, Nat.reducePow, Nat.reduceLeDiff, Nat.reduceAdd, Nat.reduceMul, Nat.reduceSub, Nat.reduceEqDiff, Nat.reduceBEq, Int.reduceToNat, Int.reduceBEq, Int.reduceBNe, hd, cb, x5, j5, j8, q9, h, h2]
      refine ⟨_, Sound_c a, ?_⟩
      (first | refine q7 [] _ _ ?_ | refine z7 [] _ _ _ ?_); simp (maxSteps := 2000000) (disch := omega) only [go_sem, ↓reduceIte, reduceCtorEq, Nat.reduceLT, Nat.reducePow, Nat.reduceLeDiff, Nat.reduceAdd, Nat.reduceMul, Nat.reduceSub, Nat.reduceEqDiff, Nat.reduceBEq, Int.reduceToNat, Int.reduceBEq, Int.reduceBNe, hd, cb, x5, j5, j8, q9, h, h2]; (repeat refine ⟨by omega, ?_⟩)
      (first | refine x9 rfl rfl rfl ?_ | refine j9 rfl rfl rfl ?_); simp (maxSteps := 2000000) (disch := omega) only [go_sem, ↓reduceIte, reduceCtorEq, Nat.reduceLT, Nat.reducePow, Nat.reduceLeDiff, Nat.reduceAdd, Nat.reduceMul, Nat.reduceSub, Nat.reduceEqDiff, Nat.reduceBEq, Int.reduceToNat, Int.reduceBEq, Int.reduceBNe, hd, cb, x5, j5, j8, q9, h, h2]
      refine ⟨_, Sound_c b, ?_⟩
      (first | refine q7 [] _ _ ?_ | refine z7 [] _ _ _ ?_); simp (maxSteps := 2000000) (disch := omega) only [go_sem, ↓reduceIte, reduceCtorEq, Nat.reduceLT, Nat.reducePow, Nat.reduceLeDiff, Nat.reduceAdd, Nat.reduceMul, Nat.reduceSub, Nat.reduceEqDiff, Nat.reduceBEq, Int.reduceToNat, Int.reduceBEq, Int.reduceBNe, hd, cb, x5, j5, j8, q9, h, h2]; (repeat refine ⟨by omega, ?_⟩)
      (first | (refine q4 (hK _ ?_); clear hK K; show AWP _ _ _ _ _) | (refine q5 (hK _ _ (j4 (by kernel_rfl)) ?_); clear hK K; show AWP _ _ _ _ _))
      refine q10 ⟨_, ?_, rfl⟩; rw [Try.results93]; simp (disch := omega) only [ResVars, ResVar, ptrLoc, go_sem, ↓reduceIte, reduceCtorEq, Nat.reduceLT, Nat.reducePow, Nat.reduceLeDiff, Nat.reduceAdd, Nat.reduceMul, Nat.reduceSub, Nat.reduceEqDiff, Nat.reduceBEq, Int.reduceToNat, Int.reduceBEq, Int.reduceBNe, hd, cb, x5, j5, j8, q9, h, h2]
    · cases h3 : b.c &&& ~~~a.c == 0
      · refine z10 Try.func93 rfl (by decide +kernel) (by rw [Try.ntmps93]; simp) ?_; rw [Try.ntmps93]; simp only [frOf]
        (repeat refine q0 ?_); (first | refine j0 fun K hK => ?_ | refine x4 (by kernel_rfl) (by kernel_rfl) fun K hK => ?_); (first | refine q7 [] _ _ ?_ | refine z7 [] _ _ _ ?_); simp (maxSteps := 2000000) (disch := omega) only [go_sem, ↓reduceIte, reduceCtorEq, Nat.reduceLT, Nat.reducePow, Nat.reduceLeDiff, Nat.reduceAdd, Nat.reduceMul, Nat.reduceSub, Nat.reduceEqDiff, Nat.reduceBEq, Int.reduceToNat, Int.reduceBEq, Int.reduceBNe, hd, cb, x5, j5, j8, q9, h, h2, h3]; (repeat refine ⟨by omega, ?_⟩); (first | (refine q4 (hK _ ?_); clear hK K; show AWP _ _ _ _ _) | (refine q5 (hK _ _ (j4 (by kernel_rfl)) ?_); clear hK K; show AWP _ _ _ _ _))
        (repeat refine q0 ?_); (first | refine j0 fun K hK => ?_ | refine x4 (by kernel_rfl) (by kernel_rfl) fun K hK => ?_)
        (first | refine q7 [] _ _ ?_ | refine z7 [] _ _ _ ?_); simp (maxSteps := 2000000) (disch := omega) only [go_sem, ↓reduceIte, reduceCtorEq, Nat.reduceLT, Nat.reducePow, Nat.reduceLeDiff, Nat.reduceAdd, Nat.reduceMul, Nat.reduceSub, Nat.reduceEqDiff, Nat.reduceBEq, Int.reduceToNat, Int.reduceBEq, Int.reduceBNe, hd, cb, x5, j5, j8, q9, h, h2, h3]; (repeat refine ⟨by omega, ?_⟩)
        (first | refine x9 rfl rfl rfl ?_ | refine j9 rfl rfl rfl ?_); simp (maxSteps := 2000000) (disch := omega) only [go_sem, ↓reduceIte, reduceCtorEq, Nat.reduceLT, Nat.reducePow, Nat.reduceLeDiff, Nat.reduceAdd, Nat.reduceMul, Nat.reduceSub, Nat.reduceEqDiff, Nat.reduceBEq, Int.reduceToNat, Int.reduceBEq, Int.reduceBNe, hd, cb, x5, j5, j8, q9, h, h2, h3]
        refine ⟨_, Sound_c a, ?_⟩
        (first | refine q7 [] _ _ ?_ | refine z7 [] _ _ _ ?_); simp (maxSteps := 2000000) (disch := omega) only [go_sem, ↓reduceIte, reduceCtorEq, Nat.reduceLT, Nat.reducePow, Nat.reduceLeDiff, Nat.reduceAdd, Nat.reduceMul, Nat.reduceSub, Nat.reduceEqDiff, Nat.reduceBEq, Int.reduceToNat, Int.reduceBEq, Int.reduceBNe, hd, cb, x5, j5, j8, q9, h, h2, h3]; (repeat refine ⟨by omega, ?_⟩)
        (first | refine x9 rfl rfl rfl ?_ | refine j9 rfl rfl rfl ?_); simp (maxSteps := 2000000) (disch := omega) only [go_sem, ↓reduceIte, reduceCtorEq, Nat.reduceLT, Nat.reducePow, Nat.reduceLeDiff, Nat.reduceAdd, Nat.reduceMul, Nat.reduceSub, Nat.reduceEqDiff, Nat.reduceBEq, Int.reduceToNat, Int.reduceBEq, Int.reduceBNe, hd, cb, x5, j5, j8, q9, h, h2, h3]
        refine ⟨_, Sound_c b, ?_⟩
        (first | refine q7 [] _ _ ?_ | refine z7 [] _ _ _ ?_); simp (maxSteps := 2000000) (disch := omega) only [go_sem, ↓reduceIte, reduceCtorEq, Nat.reduceLT, Nat.reducePow, Nat.reduceLeDiff, Nat.reduceAdd, Nat.reduceMul, Nat.reduceSub, Nat.reduceEqDiff, Nat.reduceBEq, Int.reduceToNat, Int.reduceBEq, Int.reduceBNe, hd, cb, x5, j5, j8, q9, h, h2, h3]; (repeat refine ⟨by omega, ?_⟩)
        (first | refine x9 rfl rfl rfl ?_ | refine j9 rfl rfl rfl ?_); simp (maxSteps := 2000000) (disch := omega) only [go_sem, ↓reduceIte, reduceCtorEq, Nat.reduceLT, Nat.reducePow, Nat.reduceLeDiff, Nat.reduceAdd, Nat.reduceMul, Nat.reduceSub, Nat.reduceEqDiff, Nat.reduceBEq, Int.reduceToNat, Int.reduceBEq, Int.reduceBNe, hd, cb, x5, j5, j8, q9, h, h2, h3]
        refine ⟨_, Less_c b.c a.c, ?_⟩
        (first | refine q7 [] _ _ ?_ | refine z7 [] _ _ _ ?_); simp (maxSteps := 2000000) (disch := omega) only [go_sem, ↓reduceIte, reduceCtorEq, Nat.reduceLT, Nat.reducePow, Nat.reduceLeDiff, Nat.reduceAdd, Nat.reduceMul, Nat.reduceSub, Nat.reduceEqDiff, Nat.reduceBEq, Int.reduceToNat, Int.reduceBEq, Int.reduceBNe, hd, cb, x5, j5, j8, q9, h, h2, h3]; (repeat refine ⟨by omega, ?_⟩)
        (first | refine x9 rfl rfl rfl ?_ | refine j9 rfl rfl rfl ?_); simp (maxSteps := 2000000) (disch := omega) only [go_sem, ↓reduceIte, reduceCtorEq, Nat.reduceLT, Nat.reducePow, Nat.reduceLeDiff, Nat.reduceAdd, Nat.reduceMul, Nat.reduceSub, Nat.reduceEqDiff, Nat.reduceBEq, Int.reduceToNat, Int.reduceBEq, Int.reduceBNe, hd, cb, x5, j5, j8, q9, h, h2, h3]
        refine ⟨_, none_c _, ?_⟩
        (first | refine q7 [] _ _ ?_ | refine z7 [] _ _ _ ?_); simp (maxSteps := 2000000) (disch := omega) only [go_sem, ↓reduceIte, reduceCtorEq, Nat.reduceLT, Nat.reducePow, Nat.reduceLeDiff, Nat.reduceAdd, Nat.reduceMul, Nat.reduceSub, Nat.reduceEqDiff, Nat.reduceBEq, Int.reduceToNat, Int.reduceBEq, Int.reduceBNe, hd, cb, x5, j5, j8, q9, h, h2, h3]; (repeat refine ⟨by omega, ?_⟩)
        (first | (refine q4 (hK _ ?_); clear hK K; show AWP _ _ _ _ _) | (refine q5 (hK _ _ (j4 (by kernel_rfl)) ?_); clear hK K; show AWP _ _ _ _ _))
        refine q10 ⟨_, ?_, rfl⟩; rw [Try.results93]; simp (disch := omega) only [ResVars, ResVar, ptrLoc, go_sem, ↓reduceIte, reduceCtorEq, Nat.reduceLT, Nat.reducePow, Nat.reduceLeDiff, Nat.reduceAdd, Nat.reduceMul, Nat.reduceSub, Nat.reduceEqDiff, Nat.reduceBEq, Int.reduceToNat, Int.reduceBEq, Int.reduceBNe, hd, cb, x5, j5, j8, q9, h, h2, h3]
      · refine z10 Try.func93 rfl (by decide +kernel) (by rw [Try.ntmps93]; simp) ?_; rw [Try.ntmps93]; simp only [frOf]
        (repeat refine q0 ?_); (first | refine j0 fun K hK => ?_ | refine x4 (by kernel_rfl) (by kernel_rfl) fun K hK => ?_); (first | refine q7 [] _ _ ?_ | refine z7 [] _ _ _ ?_); simp (maxSteps := 2000000) (disch := omega) only [go_sem, ↓reduceIte, reduceCtorEq, Nat.reduceLT, Nat.reducePow, Nat.reduceLeDiff, Nat.reduceAdd, Nat.reduceMul, Nat.reduceSub, Nat.reduceEqDiff, Nat.reduceBEq, Int.reduceToNat, Int.reduceBEq, Int.reduceBNe, hd, cb, x5, j5, j8, q9, h, h2, h3]; (repeat refine ⟨by omega, ?_⟩); (first | (refine q4 (hK _ ?_); clear hK K; show AWP _ _ _ _ _) | (refine q5 (hK _ _ (j4 (by kernel_rfl)) ?_); clear hK K; show AWP _ _ _ _ _))
        (repeat refine q0 ?_); (first | refine j0 fun K hK => ?_ | refine x4 (by kernel_rfl) (by kernel_rfl) fun K hK => ?_)
        (first | refine q7 [] _ _ ?_ | refine z7 [] _ _ _ ?_); simp (maxSteps := 2000000) (disch := omega) only [go_sem, ↓reduceIte, reduceCtorEq, Nat.reduceLT, Nat.reducePow, Nat.reduceLeDiff, Nat.reduceAdd, Nat.reduceMul, Nat.reduceSub, Nat.reduceEqDiff, Nat.reduceBEq, Int.reduceToNat, Int.reduceBEq, Int.reduceBNe, hd, cb, x5, j5, j8, q9, h, h2, h3]; (repeat refine ⟨by omega, ?_⟩)
        (first | refine x9 rfl rfl rfl ?_ | refine j9 rfl rfl rfl ?_); simp (maxSteps := 2000000) (disch := omega) only [go_sem, ↓reduceIte, reduceCtorEq, Nat.reduceLT, Nat.reducePow, Nat.reduceLeDiff, Nat.reduceAdd, Nat.reduceMul, Nat.reduceSub, Nat.reduceEqDiff, Nat.reduceBEq, Int.reduceToNat, Int.reduceBEq, Int.reduceBNe, hd, cb, x5, j5, j8, q9, h, h2, h3]
        refine ⟨_, Sound_c a, ?_⟩
        (first | refine q7 [] _ _ ?_ | refine z7 [] _ _ _ ?_); simp (maxSteps := 2000000) (disch := omega) only [go_sem, ↓reduceIte, reduceCtorEq, Nat.reduceLT, Nat.reducePow, Nat.reduceLeDiff, Nat.reduceAdd, Nat.reduceMul, Nat.reduceSub, Nat.reduceEqDiff, Nat.reduceBEq, Int.reduceToNat, Int.reduceBEq, Int.reduceBNe, hd, cb, x5, j5, j8, q9, h, h2, h3]; (repeat refine ⟨by omega, ?_⟩)
        (first | refine x9 rfl rfl rfl ?_ | refine j9 rfl rfl rfl ?_); simp (maxSteps := 2000000) (disch := omega) only [go_sem, ↓reduceIte, reduceCtorEq, Nat.reduceLT, Nat.reducePow, Nat.reduceLeDiff, Nat.reduceAdd, Nat.reduceMul, Nat.reduceSub, Nat.reduceEqDiff, Nat.reduceBEq, Int.reduceToNat, Int.reduceBEq, Int.reduceBNe, hd, cb, x5, j5, j8, q9, h, h2, h3]
        refine ⟨_, Sound_c b, ?_⟩
        (first | refine q7 [] _ _ ?_ | refine z7 [] _ _ _ ?_); simp (maxSteps := 2000000) (disch := omega) only [go_sem, ↓reduceIte, reduceCtorEq, Nat.reduceLT, Nat.reducePow, Nat.reduceLeDiff, Nat.reduceAdd, Nat.reduceMul, Nat.reduceSub, Nat.reduceEqDiff, Nat.reduceBEq, Int.reduceToNat, Int.reduceBEq, Int.reduceBNe, hd, cb, x5, j5, j8, q9, h, h2, h3]; (repeat refine ⟨by omega, ?_⟩)
        (first | refine x9 rfl rfl rfl ?_ | refine j9 rfl rfl rfl ?_); simp (maxSteps := 2000000) (disch := omega) only [go_sem, ↓reduceIte, reduceCtorEq, Nat.reduceLT, Nat.reducePow, Nat.reduceLeDiff, Nat.reduceAdd, Nat.reduceMul, Nat.reduceSub, Nat.reduceEqDiff, Nat.reduceBEq, Int.reduceToNat, Int.reduceBEq, Int.reduceBNe, hd, cb, x5, j5, j8, q9, h, h2, h3]
        refine ⟨_, Less_c b.c a.c, ?_⟩
        (first | refine q7 [] _ _ ?_ | refine z7 [] _ _ _ ?_); simp (maxSteps := 2000000) (disch := omega) only [go_sem, ↓reduceIte, reduceCtorEq, Nat.reduceLT, Nat.reducePow, Nat.reduceLeDiff, Nat.reduceAdd, Nat.reduceMul, Nat.reduceSub, Nat.reduceEqDiff, Nat.reduceBEq, Int.reduceToNat, Int.reduceBEq, Int.reduceBNe, hd, cb, x5, j5, j8, q9, h, h2, h3]; (repeat refine ⟨by omega, ?_⟩)
        (first | refine x9 rfl rfl rfl ?_ | refine j9 rfl rfl rfl ?_); simp (maxSteps := 2000000) (disch := omega) only [go_sem, ↓reduceIte, reduceCtorEq, Nat.reduceLT, Nat.reducePow, Nat.reduceLeDiff, Nat.reduceAdd, Nat.reduceMul, Nat.reduceSub, Nat.reduceEqDiff, Nat.reduceBEq, Int.reduceToNat, Int.reduceBEq, Int.reduceBNe, hd, cb, x5, j5, j8, q9, h, h2, h3]
        refine ⟨_, none_c _, ?_⟩
        (first | refine q7 [] _ _ ?_ | refine z7 [] _ _ _ ?_); simp (maxSteps := 2000000) (disch := omega) only [go_sem, ↓reduceIte, reduceCtorEq, Nat.reduceLT, Nat.reducePow, Nat.reduceLeDiff, Nat.reduceAdd, Nat.reduceMul, Nat.reduceSub, Nat.reduceEqDiff, Nat.reduceBEq, Int.reduceToNat, Int.reduceBEq, Int.reduceBNe, hd, cb, x5, j5, j8, q9, h, h2, h3]; (repeat refine ⟨by omega, ?_⟩)
        (first | refine x9 rfl rfl rfl ?_ | refine j9 rfl rfl rfl ?_); simp (maxSteps := 2000000) (disch := omega) only [go_sem, ↓reduceIte, reduceCtorEq, Nat.reduceLT, Nat.reducePow, Nat.reduceLeDiff, Nat.reduceAdd, Nat.reduceMul, Nat.reduceSub, Nat.reduceEqDiff, Nat.reduceBEq, Int.reduceToNat, Int.reduceBEq, Int.reduceBNe, hd, cb, x5, j5, j8, q9, h, h2, h3]
        refine ⟨_, apart_c a b, ?_⟩
        (first | refine q7 [] _ _ ?_ | refine z7 [] _ _ _ ?_); simp (maxSteps := 2000000) (disch := omega) only [go_sem, ↓reduceIte, reduceCtorEq, Nat.reduceLT, Nat.reducePow, Nat.reduceLeDiff, Nat.reduceAdd, Nat.reduceMul, Nat.reduceSub, Nat.reduceEqDiff, Nat.reduceBEq, Int.reduceToNat, Int.reduceBEq, Int.reduceBNe, hd, cb, x5, j5, j8, q9, h, h2, h3]; (repeat refine ⟨by omega, ?_⟩)
        (first | refine x9 rfl rfl rfl ?_ | refine j9 rfl rfl rfl ?_); simp (maxSteps := 2000000) (disch := omega) only [go_sem, ↓reduceIte, reduceCtorEq, Nat.reduceLT, Nat.reducePow, Nat.reduceLeDiff, Nat.reduceAdd, Nat.reduceMul, Nat.reduceSub, Nat.reduceEqDiff, Nat.reduceBEq, Int.reduceToNat, Int.reduceBEq, Int.reduceBNe, hd, cb, x5, j5, j8, q9, h, h2, h3]
        refine ⟨_, none_c _, ?_⟩
        (first | refine q7 [] _ _ ?_ | refine z7 [] _ _ _ ?_); simp (maxSteps := 2000000) (disch := omega) only [go_sem, ↓reduceIte, reduceCtorEq, Nat.reduceLT, Nat.reducePow, Nat.reduceLeDiff, Nat.reduceAdd, Nat.reduceMul, Nat.reduceSub, Nat.reduceEqDiff, Nat.reduceBEq, Int.reduceToNat, Int.reduceBEq, Int.reduceBNe, hd, cb, x5, j5, j8, q9, h, h2, h3]; (repeat refine ⟨by omega, ?_⟩)
        (first | (refine q4 (hK _ ?_); clear hK K; show AWP _ _ _ _ _) | (refine q5 (hK _ _ (j4 (by kernel_rfl)) ?_); clear hK K; show AWP _ _ _ _ _))
        refine q10 ⟨_, ?_, rfl⟩; rw [Try.results93]; simp (disch := omega) only [ResVars, ResVar, ptrLoc, go_sem, ↓reduceIte, reduceCtorEq, Nat.reduceLT, Nat.reducePow, Nat.reduceLeDiff, Nat.reduceAdd, Nat.reduceMul, Nat.reduceSub, Nat.reduceEqDiff, Nat.reduceBEq, Int.reduceToNat, Int.reduceBEq, Int.reduceBNe, hd, cb, x5, j5, j8, q9, h, h2, h3]
end Go.Proofs.Ytemcdefpihkfpaa
set_option linter.unusedSimpArgs false
set_option linter.unusedVariables false
namespace Go.Proofs.Ytemcdefpihkfpaa
open Go.Proofs.Ytemcdefpihkfpaa.AL
theorem catF_snoc (out : List Cube) (c : Cube) (i : Nat) (hlt : i < out.length + 1) : catF out.length (rowC out) (fun i => [cb c].getD i []) i = rowC (out ++ [c]) i := by
  unfold catF rowC
  by_cases h : i < out.length
  · rw [if_pos h, List.getD_eq_getElem?_getD, List.getD_eq_getElem?_getD, List.getElem?_append_left h]
  · have : i = out.length := by omega
    subst this
    simp
structure LessS where
  k : Nat
  out : List Cube
  r : Cube
def lessI (a b : Cube) (L : List Cube) (s : {s : LessS // s.k ≤ 128 ∧ s.out.length + s.k ≤ 128 ∧ s.out ++ lessGo b (b.c &&& ~~~a.c) s.k s.r = L}) : ASt :=
  ⟨[(10, .p (.d (.v (.int .i64 ((s.val.k : Int) - 1))))), (9, .loc 9 0), (8, .loc 8 0), (7, .gr 7 s.val.out.length 4 s.val.out.length (rowC s.val.out)), (4, .p (.d (.v (.slice none 0 0)))), (3, .p (.d (.bx (cb b)))), (2, .p (.d (.bx (cb a))))],
   [(9, .cells 28 [.p (.d (.v (.int .u64 (hi s.val.r.v)))), .p (.d (.v (.int .u64 (lo s.val.r.v)))), .p (.d (.v (.int .u64 (hi s.val.r.c)))), .p (.d (.v (.int .u64 (lo s.val.r.c))))]),
    (8, .cells 25 [.p (.d (.v (.int .u64 (hi (b.c &&& ~~~a.c))))), .p (.d (.v (.int .u64 (lo (b.c &&& ~~~a.c)))))]), (7, .grow 28 4 s.val.out.length s.val.out.length)]⟩
set_option maxHeartbeats 1000000 in
theorem Less_cube_c' (a b : Cube) (L : List Cube) (hL : lessL a b = L) : ACalls Try.prog 69 [.agg (cb a), .agg (cb b)] (· = [.d (.sl 4 L.length (rowC L))]) := by
  unfold lessL at hL
  cases h : a.sound
  · simp only [h, Bool.false_and, Bool.false_eq_true, if_false] at hL
    subst hL
    refine z10 Try.func69 rfl (by decide +kernel) (by rw [Try.ntmps69]; simp) ?_; rw [Try.ntmps69]; simp only [frOf]
    (repeat refine q0 ?_); (first | refine j0 fun K hK => ?_ | refine x4 (by kernel_rfl) (by kernel_rfl) fun K hK => ?_); (first | refine q7 [] _ _ ?_ | refine z7 [] _ _ _ ?_); simp (maxSteps := 2000000) (disch := omega) only [go_sem, ↓reduceIte, reduceCtorEq, Nat.reduceLT, Nat.reducePow, Nat.reduceLeDiff, Nat.reduceAdd, Nat.reduceMul, Nat.reduceSub, Nat.reduceEqDiff, Nat.reduceBEq, Int.reduceToNat, Int.reduceBEq, Int.reduceBNe, hd, cb, x5, j5, j8, q9, h]; (repeat refine ⟨by omega, ?_⟩); (first | (refine q4 (hK _ ?_); clear hK K; show AWP _ _ _ _ _) | (refine q5 (hK _ _ (j4 (by kernel_rfl)) ?_); clear hK K; show AWP _ _ _ _ _))
    (repeat refine q0 ?_); (first | refine j0 fun K hK => ?_ | refine x4 (by kernel_rfl) (by kernel_rfl) fun K hK => ?_)
    (first | refine q7 [] _ _ ?_ | refine z7 [] _ _ _ ?_); simp (maxSteps := 2000000) (disch := omega) only [go_sem, ↓reduceIte, reduceCtorEq, Nat.reduceLT, Nat.reducePow, Nat.reduceLeDiff, Nat.reduceAdd, Nat.reduceMul, Nat.reduceSub, Nat.reduceEqDiff, Nat.reduceBEq, Int.reduceToNat, Int.reduceBEq, Int.reduceBNe, hd, cb, x5, j5, j8, q9, h]; (repeat refine ⟨by omega, ?_⟩)
    (first | refine x9 rfl rfl rfl ?_ | refine j9 rfl rfl rfl ?_); simp (maxSteps := 2000000) (disch := omega) only [go_sem, ↓reduceIte, reduceCtorEq, Nat.reduceLT, Nat.reducePow, Nat.reduceLeDiff, Nat.reduceAdd, Nat.reduceMul, Nat.reduceSub, Nat.reduceEqDiff, Nat.reduceBEq, Int.reduceToNat, Int.reduceBEq, Int.reduceBNe, hd, cb, x5, j5, j8, q9, h]
    refine ⟨_, Sound_c a, ?_⟩
    (first | refine q7 [] _ _ ?_ | refine z7 [] _ _ _ ?_); simp (maxSteps := 2000000) (disch := omega) only [go_sem, ↓reduceIte, reduceCtorEq, Nat.reduceLT, Nat.reducePow, Nat.reduceLeDiff, Nat.reduceAdd, Nat.reduceMul, Nat.reduceSub, Nat.reduceEqDiff, Nat.reduceBEq, Int.reduceToNat, Int.reduceBEq, Int.reduceBNe, hd, cb, x5, j5, j8, q9, h]; (repeat refine ⟨by omega, ?_⟩)
    (first | (refine q4 (hK _ ?_); clear hK K; show AWP _ _ _ _ _) | (refine q5 (hK _ _ (j4 (by kernel_rfl)) ?_); clear hK K; show AWP _ _ _ _ _))
    (repeat refine q0 ?_); refine awp_cond rfl (fun _ => ?_) (fun ht => absurd ht (by decide))
    (repeat refine q0 ?_); (first | refine j0 fun K hK => ?_ | refine x4 (by kernel_rfl) (by kernel_rfl) fun K hK => ?_); (first | refine q7 [] _ _ ?_ | refine z7 [] _ _ _ ?_); simp (maxSteps := 2000000) (disch := omega) only [go_sem, ↓reduceIte, reduceCtorEq, Nat.reduceLT, Nat.reducePow, Nat.reduceLeDiff, Nat.reduceAdd, Nat.reduceMul, Nat.reduceSub, Nat.reduceEqDiff, Nat.reduceBEq, Int.reduceToNat, Int.reduceBEq, Int.reduceBNe, hd, cb, x5, j5, j8, q9, h]; (repeat refine ⟨by omega, ?_⟩); (first | (refine q4 (hK _ ?_); clear hK K; show AWP _ _ _ _ _) | (refine q5 (hK _ _ (j4 (by kernel_rfl)) ?_); clear hK K; show AWP _ _ _ _ _))
    refine awp_slot 4 _ (.p (.d (.sl 4 0 (rowC [])))) rfl (le_nil 4 _ _ rfl) ?_
    refine q10 ⟨_, ?_, rfl⟩; rw [Try.results69]; simp (disch := omega) only [ResVars, ResVar, ptrLoc, go_sem, ↓reduceIte, reduceCtorEq, Nat.reduceLT, Nat.reducePow, Nat.reduceLeDiff, Nat.reduceAdd, Nat.reduceMul, Nat.reduceSub, Nat.reduceEqDiff, Nat.reduceBEq, Int.reduceToNat, Int.reduceBEq, Int.reduceBNe, hd, cb, x5, j5, j8, q9, h]
  · cases h2 : b.sound
    · simp only [h, h2, Bool.and_false, Bool.false_eq_true, if_false] at hL
      subst hL
      refine z10 Try.func69 rfl (by decide +kernel) (by rw [Try.ntmps69]; simp) ?_; rw [Try.ntmps69]; simp only [frOf]
      (repeat refine q0 ?_); (first | refine j0 fun K hK => ?_ | refine x4 (by kernel_rfl) (by kernel_rfl) fun K hK => ?_); (first | refine q7 [] _ _ ?_ | refine z7 [] _ _ _ ?_); simp (maxSteps := 2000000) (disch := omega) only [go_sem, ↓reduceIte, reduceCtorEq, Nat.reduceLT, Nat.reducePow, Nat.reduceLeDiff, Nat.reduceAdd, Nat.reduceMul, Nat.reduceSub, Nat.reduceEqDiff, Nat.reduceBEq, Int.reduceToNat, Int.reduceBEq, Int.reduceBNe, hd, cb, x5, j5, j8, q9, h, h2]; (repeat refine ⟨by omega, ?_⟩); (first | (refine q4 (hK _ ?_); clear hK K; show AWP _ _ _ _ _) | (refine q5 (hK _ _ (j4 (by kernel_rfl)) ?_); clear hK K; show AWP _ _ _ _ _))
      (repeat refine q0 ?_); (first | refine j0 fun K hK => ?_ | refine x4 (by kernel_rfl) (by kernel_rfl) fun K hK => ?_)
      (first | refine q7 [] _ _ ?_ | refine z7 [] _ _ _ ?_); simp (maxSteps := 2000000) (disch := omega) only [go_sem, ↓reduceIte, reduceCtorEq, Nat.reduceLT, Nat.reducePow, Nat.reduceLeDiff, Nat.reduceAdd, Nat.reduceMul, Nat.reduceSub, Nat.reduceEqDiff, Nat.reduceBEq, Int.reduceToNat, Int.reduceBEq, Int.reduceBNe, hd, cb, x5, j5, j8, q9, h, h2]; (repeat refine ⟨by omega, ?_⟩)
      (first | refine x9 rfl rfl rfl ?_ | refine j9 rfl rfl rfl ?_); simp (maxSteps := 2000000) (disch := omega) only [go_sem, ↓reduceIte, reduceCtorEq, Nat.reduceLT, Nat.reducePow, Nat.reduceLeDiff, Nat.reduceAdd, Nat.reduceMul, Nat.reduceSub, Nat.reduceEqDiff, Nat.reduceBEq, Int.reduceToNat, Int.reduceBEq, Int.reduceBNe, hd, cb, x5, j5, j8, q9, h, h2]
      refine ⟨_, Sound_c a, ?_⟩
      (first | refine q7 [] _ _ ?_ | refine z7 [] _ _ _ ?_); simp (maxSteps := 2000000) (disch := omega) only [go_sem, ↓reduceIte, reduceCtorEq, Nat.reduceLT, Nat.reducePow, Nat.reduceLeDiff, Nat.reduceAdd, Nat.reduceMul, Nat.reduceSub, Nat.reduceEqDiff, Nat.reduceBEq, Int.reduceToNat, Int.reduceBEq, Int.reduceBNe, hd, cb, x5, j5, j8, q9, h, h2]; (repeat refine ⟨by omega, ?_⟩)
      (first | refine x9 rfl rfl rfl ?_ | refine j9 rfl rfl rfl ?_); simp (maxSteps := 2000000) (disch := omega) only [go_sem, ↓reduceIte, reduceCtorEq, Nat.reduceLT, Nat.reducePow, Nat.reduceLeDiff, Nat.reduceAdd, Nat.reduceMul, Nat.reduceSub, Nat.reduceEqDiff, Nat.reduceBEq, Int.reduceToNat, Int.reduceBEq, Int.reduceBNe, hd, cb, x5, j5, j8, q9, h, h2]
      refine ⟨_, Sound_c b, ?_⟩
      (first | refine q7 [] _ _ ?_ | refine z7 [] _ _ _ ?_); simp (maxSteps := 2000000) (disch := omega) only [go_sem, ↓reduceIte, reduceCtorEq, Nat.reduceLT, Nat.reducePow, Nat.reduceLeDiff, Nat.reduceAdd, Nat.reduceMul, Nat.reduceSub, Nat.reduceEqDiff, Nat.reduceBEq, Int.reduceToNat, Int.reduceBEq, Int.reduceBNe, hd, cb, x5, j5, j8, q9, h, h2]; (repeat refine ⟨by omega, ?_⟩)
      (first | (refine q4 (hK _ ?_); clear hK K; show AWP _ _ _ _ _) | (refine q5 (hK _ _ (j4 (by kernel_rfl)) ?_); clear hK K; show AWP _ _ _ _ _))
      (repeat refine q0 ?_); refine awp_cond rfl (fun _ => ?_) (fun ht => absurd ht (by decide))
      (repeat refine q0 ?_); (first | refine j0 fun K hK => ?_ | refine x4 (by kernel_rfl) (by kernel_rfl) fun K hK => ?_); (first | refine q7 [] _ _ ?_ | refine z7 [] _ _ _ ?_); simp (maxSteps := 2000000) (disch := omega) only [go_sem, ↓reduceIte, reduceCtorEq, Nat.reduceLT, Nat.reducePow, Nat.reduceLeDiff, Nat.reduceAdd, Nat.reduceMul, Nat.reduceSub, Nat.reduceEqDiff, Nat.reduceBEq, Int.reduceToNat, Int.reduceBEq, Int.reduceBNe, hd, cb, x5, j5, j8, q9, h, h2]; (repeat refine ⟨by omega, ?_⟩); (first | (refine q4 (hK _ ?_); clear hK K; show AWP _ _ _ _ _) | (refine q5 (hK _ _ (j4 (by kernel_rfl)) ?_); clear hK K; show AWP _ _ _ _ _))
      refine awp_slot 4 _ (.p (.d (.sl 4 0 (rowC [])))) rfl (le_nil 4 _ _ rfl) ?_
      refine q10 ⟨_, ?_, rfl⟩; rw [Try.results69]; simp (disch := omega) only [ResVars, ResVar, ptrLoc, go_sem, ↓reduceIte, reduceCtorEq, Nat.reduceLT, Nat.reducePow, Nat.reduceLeDiff, Nat.reduceAdd, Nat.reduceMul, Nat.reduceSub, Nat.reduceEqDiff, Nat.reduceBEq, Int.reduceToNat, Int.reduceBEq, Int.reduceBNe, hd, cb, x5, j5, j8, q9, h, h2]
    · cases h3 : meetO a b
      all_goals
        simp only [h, h2, h3, Bool.and_self, Bool.false_eq_true, if_false, if_true] at hL
        refine z10 Try.func69 rfl (by decide +kernel) (by rw [Try.ntmps69]; simp) ?_; rw [Try.ntmps69]; simp only [frOf]
        (repeat refine q0 ?_); (first | refine j0 fun K hK => ?_ | refine x4 (by kernel_rfl) (by kernel_rfl) fun K hK => ?_); (first | refine q7 [] _ _ ?_ | refine z7 [] _ _ _ ?_); simp (maxSteps := 2000000) (disch := omega) only [go_sem, ↓reduceIte, reduceCtorEq, Nat.reduceLT, Nat.reducePow, Nat.reduceLeDiff, Nat.reduceAdd, Nat.reduceMul, Nat.reduceSub, Nat.reduceEqDiff, Nat.reduceBEq, Int.reduceToNat, Int.reduceBEq, Int.reduceBNe, hd, cb, x5, j5, j8, q9, h, h2, h3]; (repeat refine ⟨by omega, ?_⟩); (first | (refine q4 (hK _ ?_); clear hK K; show AWP _ _ _ _ _) | (refine q5 (hK _ _ (j4 (by kernel_rfl)) ?_); clear hK K; show AWP _ _ _ _ _))
        (repeat refine q0 ?_); (first | refine j0 fun K hK => ?_ | refine x4 (by kernel_rfl) (by kernel_rfl) fun K hK => ?_)
        (first | refine q7 [] _ _ ?_ | refine z7 [] _ _ _ ?_); simp (maxSteps := 2000000) (disch := omega) only [go_sem, ↓reduceIte, reduceCtorEq, Nat.reduceLT, Nat.reducePow, Nat.reduceLeDiff, Nat.reduceAdd, Nat.reduceMul, Nat.reduceSub, Nat.reduceEqDiff, Nat.reduceBEq, Int.reduceToNat, Int.reduceBEq, Int.reduceBNe, hd, cb, x5, j5, j8, q9, h, h2, h3]; (repeat refine ⟨by omega, ?_⟩)
        (first | refine x9 rfl rfl rfl ?_ | refine j9 rfl rfl rfl ?_); simp (maxSteps := 2000000) (disch := omega) only [go_sem, ↓reduceIte, reduceCtorEq, Nat.reduceLT, Nat.reducePow, Nat.reduceLeDiff, Nat.reduceAdd, Nat.reduceMul, Nat.reduceSub, Nat.reduceEqDiff, Nat.reduceBEq, Int.reduceToNat, Int.reduceBEq, Int.reduceBNe, hd, cb, x5, j5, j8, q9, h, h2, h3]
        refine ⟨_, Sound_c a, ?_⟩
        (first | refine q7 [] _ _ ?_ | refine z7 [] _ _ _ ?_); simp (maxSteps := 2000000) (disch := omega) only [go_sem, ↓reduceIte, reduceCtorEq, Nat.reduceLT, Nat.reducePow, Nat.reduceLeDiff, Nat.reduceAdd, Nat.reduceMul, Nat.reduceSub, Nat.reduceEqDiff, Nat.reduceBEq, Int.reduceToNat, Int.reduceBEq, Int.reduceBNe, hd, cb, x5, j5, j8, q9, h, h2, h3]; (repeat refine ⟨by omega, ?_⟩)
        (first | refine x9 rfl rfl rfl ?_ | refine j9 rfl rfl rfl ?_); simp (maxSteps := 2000000) (disch := omega) only [go_sem, ↓reduceIte, reduceCtorEq, Nat.reduceLT, Nat.reducePow, Nat.reduceLeDiff, Nat.reduceAdd, Nat.reduceMul, Nat.reduceSub, Nat.reduceEqDiff, Nat.reduceBEq, Int.reduceToNat, Int.reduceBEq, Int.reduceBNe, hd, cb, x5, j5, j8, q9, h, h2, h3]
        refine ⟨_, Sound_c b, ?_⟩
        (first | refine q7 [] _ _ ?_ | refine z7 [] _ _ _ ?_); simp (maxSteps := 2000000) (disch := omega) only [go_sem, ↓reduceIte, reduceCtorEq, Nat.reduceLT, Nat.reducePow, Nat.reduceLeDiff, Nat.reduceAdd, Nat.reduceMul, Nat.reduceSub, Nat.reduceEqDiff, Nat.reduceBEq, Int.reduceToNat, Int.reduceBEq, Int.reduceBNe, hd, cb, x5, j5, j8, q9, h, h2, h3]; (repeat refine ⟨by omega, ?_⟩)
        (first | (refine q4 (hK _ ?_); clear hK K; show AWP _ _ _ _ _) | (refine q5 (hK _ _ (j4 (by kernel_rfl)) ?_); clear hK K; show AWP _ _ _ _ _))
        (repeat refine q0 ?_); refine awp_cond rfl (fun ht => absurd ht (by decide)) (fun _ => ?_); refine q6 ?_; show AWP _ _ _ _ _
        (repeat refine q0 ?_); (first | refine j0 fun K hK => ?_ | refine x4 (by kernel_rfl) (by kernel_rfl) fun K hK => ?_)
        (first | refine q7 [] _ _ ?_ | refine z7 [] _ _ _ ?_); simp (maxSteps := 2000000) (disch := omega) only [go_sem, ↓reduceIte, reduceCtorEq, Nat.reduceLT, Nat.reducePow, Nat.reduceLeDiff, Nat.reduceAdd, Nat.reduceMul, Nat.reduceSub, Nat.reduceEqDiff, Nat.reduceBEq, Int.reduceToNat, Int.reduceBEq, Int.reduceBNe, hd, cb, x5, j5, j8, q9, h, h2, h3]; (repeat refine ⟨by omega, ?_⟩)
        (first | refine x9 rfl rfl rfl ?_ | refine j9 rfl rfl rfl ?_); simp (maxSteps := 2000000) (disch := omega) only [go_sem, ↓reduceIte, reduceCtorEq, Nat.reduceLT, Nat.reducePow, Nat.reduceLeDiff, Nat.reduceAdd, Nat.reduceMul, Nat.reduceSub, Nat.reduceEqDiff, Nat.reduceBEq, Int.reduceToNat, Int.reduceBEq, Int.reduceBNe, hd, cb, x5, j5, j8, q9, h, h2, h3]
        refine ⟨_, Meet_c a b, ?_⟩
        (first | refine q7 [] _ _ ?_ | refine z7 [] _ _ _ ?_); simp (maxSteps := 2000000) (disch := omega) only [go_sem, ↓reduceIte, reduceCtorEq, Nat.reduceLT, Nat.reducePow, Nat.reduceLeDiff, Nat.reduceAdd, Nat.reduceMul, Nat.reduceSub, Nat.reduceEqDiff, Nat.reduceBEq, Int.reduceToNat, Int.reduceBEq, Int.reduceBNe, hd, cb, x5, j5, j8, q9, h, h2, h3]; (repeat refine ⟨by omega, ?_⟩)
        (first | (refine q4 (hK _ ?_); clear hK K; show AWP _ _ _ _ _) | (refine q5 (hK _ _ (j4 (by kernel_rfl)) ?_); clear hK K; show AWP _ _ _ _ _))
        (repeat refine q0 ?_); (first | refine j0 fun K hK => ?_ | refine x4 (by kernel_rfl) (by kernel_rfl) fun K hK => ?_); (first | refine q7 [] _ _ ?_ | refine z7 [] _ _ _ ?_); simp (maxSteps := 2000000) (disch := omega) only [go_sem, ↓reduceIte, reduceCtorEq, Nat.reduceLT, Nat.reducePow, Nat.reduceLeDiff, Nat.reduceAdd, Nat.reduceMul, Nat.reduceSub, Nat.reduceEqDiff, Nat.reduceBEq, Int.reduceToNat, Int.reduceBEq, Int.reduceBNe, hd, cb, x5, j5, j8, q9, h, h2, h3]; (repeat refine ⟨by omega, ?_⟩); (first | (refine q4 (hK _ ?_); clear hK K; show AWP _ _ _ _ _) | (refine q5 (hK _ _ (j4 (by kernel_rfl)) ?_); clear hK K; show AWP _ _ _ _ _))
      · (repeat refine q0 ?_); refine awp_cond rfl (fun _ => ?_) (fun ht => absurd ht (by decide))
        (repeat refine q0 ?_); (first | refine j0 fun K hK => ?_ | refine x4 (by kernel_rfl) (by kernel_rfl) fun K hK => ?_); (first | refine q7 [] _ _ ?_ | refine z7 [] _ _ _ ?_); simp (maxSteps := 2000000) (disch := omega) only [go_sem, ↓reduceIte, reduceCtorEq, Nat.reduceLT, Nat.reducePow, Nat.reduceLeDiff, Nat.reduceAdd, Nat.reduceMul, Nat.reduceSub, Nat.reduceEqDiff, Nat.reduceBEq, Int.reduceToNat, Int.reduceBEq, Int.reduceBNe, hd, cb, x5, j5, j8, q9, h, h2, h3]; (repeat refine ⟨by omega, ?_⟩); (first | (refine q4 (hK _ ?_); clear hK K; show AWP _ _ _ _ _) | (refine q5 (hK _ _ (j4 (by kernel_rfl)) ?_); clear hK K; show AWP _ _ _ _ _))
        subst hL
        refine awp_slot 4 _ _ rfl (le_sl (n' := 1) (f' := rowC [a]) rfl (fun i hlt => ?_)) ?_
        · have : i = 0 := by omega
          subst this; rfl
        refine q10 ⟨_, ?_, rfl⟩; rw [Try.results69]; simp (disch := omega) only [ResVars, ResVar, ptrLoc, go_sem, ↓reduceIte, reduceCtorEq, Nat.reduceLT, Nat.reducePow, Nat.reduceLeDiff, Nat.reduceAdd, Nat.reduceMul, Nat.reduceSub, Nat.reduceEqDiff, Nat.reduceBEq, Int.reduceToNat, Int.reduceBEq, Int.reduceBNe, hd, cb, x5, j5, j8, q9, h, h2, h3]
      · (repeat refine q0 ?_); refine awp_cond rfl (fun ht => absurd ht (by decide)) (fun _ => ?_); refine q6 ?_; show AWP _ _ _ _ _
        (repeat refine q0 ?_); (first | refine j0 fun K hK => ?_ | refine x4 (by kernel_rfl) (by kernel_rfl) fun K hK => ?_); (first | refine q7 [] _ _ ?_ | refine z7 [] _ _ _ ?_); simp (maxSteps := 2000000) (disch := omega) only [go_sem, ↓reduceIte, reduceCtorEq, Nat.reduceLT, Nat.reducePow, Nat.reduceLeDiff, Nat.reduceAdd, Nat.reduceMul, Nat.reduceSub, Nat.reduceEqDiff, Nat.reduceBEq, Int.reduceToNat, Int.reduceBEq, Int.reduceBNe, hd, cb, x5, j5, j8, q9, h, h2, h3]; (repeat refine ⟨by omega, ?_⟩); (first | (refine q4 (hK _ ?_); clear hK K; show AWP _ _ _ _ _) | (refine q5 (hK _ _ (j4 (by kernel_rfl)) ?_); clear hK K; show AWP _ _ _ _ _))
        (repeat refine q0 ?_); (first | refine j0 fun K hK => ?_ | refine x4 (by kernel_rfl) (by kernel_rfl) fun K hK => ?_)
        (first | refine q7 [] _ _ ?_ | refine z7 [] _ _ _ ?_); simp (maxSteps := 2000000) (disch := omega) only [go_sem, ↓reduceIte, reduceCtorEq, Nat.reduceLT, Nat.reducePow, Nat.reduceLeDiff, Nat.reduceAdd, Nat.reduceMul, Nat.reduceSub, Nat.reduceEqDiff, Nat.reduceBEq, Int.reduceToNat, Int.reduceBEq, Int.reduceBNe, hd, cb, x5, j5, j8, q9, h, h2, h3]; (repeat refine ⟨by omega, ?_⟩)
        (first | refine x9 rfl rfl rfl ?_ | refine j9 rfl rfl rfl ?_); simp (maxSteps := 2000000) (disch := omega) only [go_sem, ↓reduceIte, reduceCtorEq, Nat.reduceLT, Nat.reducePow, Nat.reduceLeDiff, Nat.reduceAdd, Nat.reduceMul, Nat.reduceSub, Nat.reduceEqDiff, Nat.reduceBEq, Int.reduceToNat, Int.reduceBEq, Int.reduceBNe, hd, cb, x5, j5, j8, q9, h, h2, h3]
        refine ⟨_, Less_c b.c a.c, ?_⟩
        (first | refine q7 [] _ _ ?_ | refine z7 [] _ _ _ ?_); simp (maxSteps := 2000000) (disch := omega) only [go_sem, ↓reduceIte, reduceCtorEq, Nat.reduceLT, Nat.reducePow, Nat.reduceLeDiff, Nat.reduceAdd, Nat.reduceMul, Nat.reduceSub, Nat.reduceEqDiff, Nat.reduceBEq, Int.reduceToNat, Int.reduceBEq, Int.reduceBNe, hd, cb, x5, j5, j8, q9, h, h2, h3]; (repeat refine ⟨by omega, ?_⟩)
        (first | (refine q4 (hK _ ?_); clear hK K; show AWP _ _ _ _ _) | (refine q5 (hK _ _ (j4 (by kernel_rfl)) ?_); clear hK K; show AWP _ _ _ _ _))
        (repeat refine q0 ?_); (first | refine j0 fun K hK => ?_ | refine x4 (by kernel_rfl) (by kernel_rfl) fun K hK => ?_); (first | refine q7 [] _ _ ?_ | refine z7 [] _ _ _ ?_); simp (maxSteps := 2000000) (disch := omega) only [go_sem, ↓reduceIte, reduceCtorEq, Nat.reduceLT, Nat.reducePow, Nat.reduceLeDiff, Nat.reduceAdd, Nat.reduceMul, Nat.reduceSub, Nat.reduceEqDiff, Nat.reduceBEq, Int.reduceToNat, Int.reduceBEq, Int.reduceBNe, hd, cb, x5, j5, j8, q9, h, h2, h3]; (repeat refine ⟨by omega, ?_⟩); (first | (refine q4 (hK _ ?_); clear hK K; show AWP _ _ _ _ _) | (refine q5 (hK _ _ (j4 (by kernel_rfl)) ?_); clear hK K; show AWP _ _ _ _ _))
        (repeat refine q0 ?_); (first | refine j0 fun K hK => ?_ | refine x4 (by kernel_rfl) (by kernel_rfl) fun K hK => ?_); (first | refine q7 [] _ _ ?_ | refine z7 [] _ _ _ ?_); simp (maxSteps := 2000000) (disch := omega) only [go_sem, ↓reduceIte, reduceCtorEq, Nat.reduceLT, Nat.reducePow, Nat.reduceLeDiff, Nat.reduceAdd, Nat.reduceMul, Nat.reduceSub, Nat.reduceEqDiff, Nat.reduceBEq, Int.reduceToNat, Int.reduceBEq, Int.reduceBNe, hd, cb, x5, j5, j8, q9, h, h2, h3]; (repeat refine ⟨by omega, ?_⟩); (first | (refine q4 (hK _ ?_); clear hK K; show AWP _ _ _ _ _) | (refine q5 (hK _ _ (j4 (by kernel_rfl)) ?_); clear hK K; show AWP _ _ _ _ _))
        refine awp_grow 7 7 4 28 (rowC []) rfl (by kernel_rfl) rfl ?_
        refine z6 (awp_loop (lessI a b L) (fun s => s.val.k) ⟨⟨128, [], a⟩, by simp, by simp, by rw [List.nil_append]; exact hL⟩ ?_ (fun s => ?_))
        · unfold lessI
          refine Weak.list ?_ ?_; (all_goals simp (disch := omega) only [AllF, AllL, j10, le_top, x10, exists_eq_left', Option.some.injEq, go_sem, ↓reduceIte, reduceCtorEq, Nat.reduceLT, Nat.reducePow, Nat.reduceLeDiff, Nat.reduceAdd, Nat.reduceMul, Nat.reduceSub, Nat.reduceEqDiff, Nat.reduceBEq, Int.reduceToNat, Int.reduceBEq, Int.reduceBNe, hd, cb, x5, j5, j8, q9, h, h2, h3]); (all_goals (repeat' (with_reducible apply And.intro))); (all_goals try (first | exact x8 rfl | (refine le_int ?_; omega) | (refine x8 ?_; simp; done)))
        obtain ⟨⟨k, out, r⟩, hk, hl, he⟩ := s
        unfold lessI
        simp only [] at hk hl he
        cases k with
        | zero =>
          (repeat refine q0 ?_); (first | refine j0 fun K hK => ?_ | refine x4 (by kernel_rfl) (by kernel_rfl) fun K hK => ?_); (first | refine q7 [] _ _ ?_ | refine z7 [] _ _ _ ?_); simp (maxSteps := 2000000) (disch := omega) only [go_sem, ↓reduceIte, reduceCtorEq, Nat.reduceLT, Nat.reducePow, Nat.reduceLeDiff, Nat.reduceAdd, Nat.reduceMul, Nat.reduceSub, Nat.reduceEqDiff, Nat.reduceBEq, Int.reduceToNat, Int.reduceBEq, Int.reduceBNe, hd, cb, x5, j5, j8, q9, h, h2, h3]; (repeat refine ⟨by omega, ?_⟩); (first | (refine q4 (hK _ ?_); clear hK K; show AWP _ _ _ _ _) | (refine q5 (hK _ _ (j4 (by kernel_rfl)) ?_); clear hK K; show AWP _ _ _ _ _))
          refine awp_cond rfl (fun ht => absurd ht (by decide)) (fun _ => ?_)
          refine x6 ?_
          show AWP _ _ _ _ _
          (repeat refine q0 ?_); (first | refine j0 fun K hK => ?_ | refine x4 (by kernel_rfl) (by kernel_rfl) fun K hK => ?_); (first | refine q7 [] _ _ ?_ | refine z7 [] _ _ _ ?_); simp (maxSteps := 2000000) (disch := omega) only [go_sem, ↓reduceIte, reduceCtorEq, Nat.reduceLT, Nat.reducePow, Nat.reduceLeDiff, Nat.reduceAdd, Nat.reduceMul, Nat.reduceSub, Nat.reduceEqDiff, Nat.reduceBEq, Int.reduceToNat, Int.reduceBEq, Int.reduceBNe, hd, cb, x5, j5, j8, q9, h, h2, h3]; (repeat refine ⟨by omega, ?_⟩); (first | (refine q4 (hK _ ?_); clear hK K; show AWP _ _ _ _ _) | (refine q5 (hK _ _ (j4 (by kernel_rfl)) ?_); clear hK K; show AWP _ _ _ _ _))
          refine awp_slot 4 _ (.p (.d (.sl 4 L.length (rowC L)))) rfl ?_ ?_
          · simp only [lessGo, List.append_nil] at he
            rw [← he]
            exact le_gr rfl (fun _ _ => rfl)
          refine q10 ⟨_, ?_, rfl⟩; rw [Try.results69]; simp (disch := omega) only [ResVars, ResVar, ptrLoc, go_sem, ↓reduceIte, reduceCtorEq, Nat.reduceLT, Nat.reducePow, Nat.reduceLeDiff, Nat.reduceAdd, Nat.reduceMul, Nat.reduceSub, Nat.reduceEqDiff, Nat.reduceBEq, Int.reduceToNat, Int.reduceBEq, Int.reduceBNe, hd, cb, x5, j5, j8, q9, h, h2, h3]
        | succ n =>
          have bit := Bit_c (b.c &&& ~~~a.c) (n : Int)
          rw [if_pos ⟨by omega, by omega⟩, Int.toNat_natCast] at bit
          simp only [cs1]
          cases hb : (b.c &&& ~~~a.c).getLsbD n
          all_goals
            rw [hb] at bit
            (repeat refine q0 ?_); (first | refine j0 fun K hK => ?_ | refine x4 (by kernel_rfl) (by kernel_rfl) fun K hK => ?_); (first | refine q7 [] _ _ ?_ | refine z7 [] _ _ _ ?_); simp (maxSteps := 2000000) (disch := omega) only [go_sem, ↓reduceIte, reduceCtorEq, Nat.reduceLT, Nat.reducePow, Nat.reduceLeDiff, Nat.reduceAdd, Nat.reduceMul, Nat.reduceSub, Nat.reduceEqDiff, Nat.reduceBEq, Int.reduceToNat, Int.reduceBEq, Int.reduceBNe, hd, cb, x5, j5, j8, q9, h, h2, h3]; (repeat refine ⟨by omega, ?_⟩); (first | (refine q4 (hK _ ?_); clear hK K; show AWP _ _ _ _ _) | (refine q5 (hK _ _ (j4 (by kernel_rfl)) ?_); clear hK K; show AWP _ _ _ _ _))
            (repeat refine q0 ?_); refine awp_cond rfl (fun _ => ?_) (fun ht => absurd ht (by decide))
            refine q6 ?_; show AWP _ _ _ _ _
            refine q0 (z6 ?_)
            (repeat refine q0 ?_); (first | refine j0 fun K hK => ?_ | refine x4 (by kernel_rfl) (by kernel_rfl) fun K hK => ?_)
            (first | refine q7 [] _ _ ?_ | refine z7 [] _ _ _ ?_); simp (maxSteps := 2000000) (disch := omega) only [go_sem, ↓reduceIte, reduceCtorEq, Nat.reduceLT, Nat.reducePow, Nat.reduceLeDiff, Nat.reduceAdd, Nat.reduceMul, Nat.reduceSub, Nat.reduceEqDiff, Nat.reduceBEq, Int.reduceToNat, Int.reduceBEq, Int.reduceBNe, hd, cb, x5, j5, j8, q9, h, h2, h3]; (repeat refine ⟨by omega, ?_⟩)
            (first | refine x9 rfl rfl rfl ?_ | refine j9 rfl rfl rfl ?_); simp (maxSteps := 2000000) (disch := omega) only [go_sem, ↓reduceIte, reduceCtorEq, Nat.reduceLT, Nat.reducePow, Nat.reduceLeDiff, Nat.reduceAdd, Nat.reduceMul, Nat.reduceSub, Nat.reduceEqDiff, Nat.reduceBEq, Int.reduceToNat, Int.reduceBEq, Int.reduceBNe, hd, cb, x5, j5, j8, q9, h, h2, h3]
            refine ⟨_, bit, ?_⟩
            (first | refine q7 [] _ _ ?_ | refine z7 [] _ _ _ ?_); simp (maxSteps := 2000000) (disch := omega) only [go_sem, ↓reduceIte, reduceCtorEq, Nat.reduceLT, Nat.reducePow, Nat.reduceLeDiff, Nat.reduceAdd, Nat.reduceMul, Nat.reduceSub, Nat.reduceEqDiff, Nat.reduceBEq, Int.reduceToNat, Int.reduceBEq, Int.reduceBNe, hd, cb, x5, j5, j8, q9, h, h2, h3]; (repeat refine ⟨by omega, ?_⟩)
            (first | (refine q4 (hK _ ?_); clear hK K; show AWP _ _ _ _ _) | (refine q5 (hK _ _ (j4 (by kernel_rfl)) ?_); clear hK K; show AWP _ _ _ _ _))
          · refine awp_cond rfl (fun _ => ?_) (fun ht => absurd ht (by decide))
            refine x6 ?_
            show AWP _ _ _ _ _
            (repeat refine q0 ?_); (first | refine j0 fun K hK => ?_ | refine x4 (by kernel_rfl) (by kernel_rfl) fun K hK => ?_)
            (first | refine q7 [] _ _ ?_ | refine z7 [] _ _ _ ?_); simp (maxSteps := 2000000) (disch := omega) only [go_sem, ↓reduceIte, reduceCtorEq, Nat.reduceLT, Nat.reducePow, Nat.reduceLeDiff, Nat.reduceAdd, Nat.reduceMul, Nat.reduceSub, Nat.reduceEqDiff, Nat.reduceBEq, Int.reduceToNat, Int.reduceBEq, Int.reduceBNe, hd, cb, x5, j5, j8, q9, h, h2, h3]; (repeat refine ⟨by omega, ?_⟩)
            (first | (refine q4 (hK _ ?_); clear hK K; show loopQ _ _ _ _ _ _) | (refine q5 (hK _ _ (j4 (by kernel_rfl)) ?_); clear hK K; show loopQ _ _ _ _ _ _))
            refine ⟨⟨⟨n, out, r⟩, by simp only []; omega, by simp only []; omega, ?_⟩, by simp only []; omega, ?_⟩
            · simpa [lessGo, hb] using he
            · refine Weak.list ?_ ?_; (all_goals simp (disch := omega) only [AllF, AllL, j10, le_top, x10, exists_eq_left', Option.some.injEq, go_sem, ↓reduceIte, reduceCtorEq, Nat.reduceLT, Nat.reducePow, Nat.reduceLeDiff, Nat.reduceAdd, Nat.reduceMul, Nat.reduceSub, Nat.reduceEqDiff, Nat.reduceBEq, Int.reduceToNat, Int.reduceBEq, Int.reduceBNe, hd, cb, x5, j5, j8, q9, h, h2, h3]); (all_goals (repeat' (with_reducible apply And.intro))); (all_goals try (first | exact x8 rfl | (refine le_int ?_; omega) | (refine x8 ?_; simp; done)))
          · (repeat refine q0 ?_); refine awp_cond rfl (fun ht => absurd ht (by decide)) (fun _ => ?_); refine q6 ?_; show AWP _ _ _ _ _
            have mask := Mask_c (n : Int) 1 (by omega)
            obtain ⟨bt, hbt⟩ : ∃ bt, ones 1 <<< n = bt := ⟨_, rfl⟩
            rw [show fieldB (n : Int) 1 128 = true from by simp [fieldB]; omega, if_pos rfl, if_pos rfl, Int.toNat_natCast, show Int.toNat 1 = 1 from rfl, hbt] at mask
            (repeat refine q0 ?_); (first | refine j0 fun K hK => ?_ | refine x4 (by kernel_rfl) (by kernel_rfl) fun K hK => ?_)
            (first | refine q7 [] _ _ ?_ | refine z7 [] _ _ _ ?_); simp (maxSteps := 2000000) (disch := omega) only [go_sem, ↓reduceIte, reduceCtorEq, Nat.reduceLT, Nat.reducePow, Nat.reduceLeDiff, Nat.reduceAdd, Nat.reduceMul, Nat.reduceSub, Nat.reduceEqDiff, Nat.reduceBEq, Int.reduceToNat, Int.reduceBEq, Int.reduceBNe, hd, cb, x5, j5, j8, q9, h, h2, h3]; (repeat refine ⟨by omega, ?_⟩)
            (first | refine x9 rfl rfl rfl ?_ | refine j9 rfl rfl rfl ?_); simp (maxSteps := 2000000) (disch := omega) only [go_sem, ↓reduceIte, reduceCtorEq, Nat.reduceLT, Nat.reducePow, Nat.reduceLeDiff, Nat.reduceAdd, Nat.reduceMul, Nat.reduceSub, Nat.reduceEqDiff, Nat.reduceBEq, Int.reduceToNat, Int.reduceBEq, Int.reduceBNe, hd, cb, x5, j5, j8, q9, h, h2, h3]
            refine ⟨_, mask, ?_⟩
            (first | refine q7 [] _ _ ?_ | refine z7 [] _ _ _ ?_); simp (maxSteps := 2000000) (disch := omega) only [go_sem, ↓reduceIte, reduceCtorEq, Nat.reduceLT, Nat.reducePow, Nat.reduceLeDiff, Nat.reduceAdd, Nat.reduceMul, Nat.reduceSub, Nat.reduceEqDiff, Nat.reduceBEq, Int.reduceToNat, Int.reduceBEq, Int.reduceBNe, hd, cb, x5, j5, j8, q9, h, h2, h3]; (repeat refine ⟨by omega, ?_⟩)
            (first | (refine q4 (hK _ ?_); clear hK K; show AWP _ _ _ _ _) | (refine q5 (hK _ _ (j4 (by kernel_rfl)) ?_); clear hK K; show AWP _ _ _ _ _))
            (repeat refine q0 ?_); (first | refine j0 fun K hK => ?_ | refine x4 (by kernel_rfl) (by kernel_rfl) fun K hK => ?_)
            (first | refine q7 [] _ _ ?_ | refine z7 [] _ _ _ ?_); simp (maxSteps := 2000000) (disch := omega) only [go_sem, ↓reduceIte, reduceCtorEq, Nat.reduceLT, Nat.reducePow, Nat.reduceLeDiff, Nat.reduceAdd, Nat.reduceMul, Nat.reduceSub, Nat.reduceEqDiff, Nat.reduceBEq, Int.reduceToNat, Int.reduceBEq, Int.reduceBNe, hd, cb, x5, j5, j8, q9, h, h2, h3]; (repeat refine ⟨by omega, ?_⟩)
            (first | refine x9 rfl rfl rfl ?_ | refine j9 rfl rfl rfl ?_); simp (maxSteps := 2000000) (disch := omega) only [go_sem, ↓reduceIte, reduceCtorEq, Nat.reduceLT, Nat.reducePow, Nat.reduceLeDiff, Nat.reduceAdd, Nat.reduceMul, Nat.reduceSub, Nat.reduceEqDiff, Nat.reduceBEq, Int.reduceToNat, Int.reduceBEq, Int.reduceBNe, hd, cb, x5, j5, j8, q9, h, h2, h3]
            refine ⟨_, And_c b.v _, ?_⟩
            (first | refine q7 [] _ _ ?_ | refine z7 [] _ _ _ ?_); simp (maxSteps := 2000000) (disch := omega) only [go_sem, ↓reduceIte, reduceCtorEq, Nat.reduceLT, Nat.reducePow, Nat.reduceLeDiff, Nat.reduceAdd, Nat.reduceMul, Nat.reduceSub, Nat.reduceEqDiff, Nat.reduceBEq, Int.reduceToNat, Int.reduceBEq, Int.reduceBNe, hd, cb, x5, j5, j8, q9, h, h2, h3]; (repeat refine ⟨by omega, ?_⟩)
            (first | refine x9 rfl rfl rfl ?_ | refine j9 rfl rfl rfl ?_); simp (maxSteps := 2000000) (disch := omega) only [go_sem, ↓reduceIte, reduceCtorEq, Nat.reduceLT, Nat.reducePow, Nat.reduceLeDiff, Nat.reduceAdd, Nat.reduceMul, Nat.reduceSub, Nat.reduceEqDiff, Nat.reduceBEq, Int.reduceToNat, Int.reduceBEq, Int.reduceBNe, hd, cb, x5, j5, j8, q9, h, h2, h3]
            refine ⟨_, Or_c r.v _, ?_⟩
            (first | refine q7 [] _ _ ?_ | refine z7 [] _ _ _ ?_); simp (maxSteps := 2000000) (disch := omega) only [go_sem, ↓reduceIte, reduceCtorEq, Nat.reduceLT, Nat.reducePow, Nat.reduceLeDiff, Nat.reduceAdd, Nat.reduceMul, Nat.reduceSub, Nat.reduceEqDiff, Nat.reduceBEq, Int.reduceToNat, Int.reduceBEq, Int.reduceBNe, hd, cb, x5, j5, j8, q9, h, h2, h3]; (repeat refine ⟨by omega, ?_⟩)
            (first | refine x9 rfl rfl rfl ?_ | refine j9 rfl rfl rfl ?_); simp (maxSteps := 2000000) (disch := omega) only [go_sem, ↓reduceIte, reduceCtorEq, Nat.reduceLT, Nat.reducePow, Nat.reduceLeDiff, Nat.reduceAdd, Nat.reduceMul, Nat.reduceSub, Nat.reduceEqDiff, Nat.reduceBEq, Int.reduceToNat, Int.reduceBEq, Int.reduceBNe, hd, cb, x5, j5, j8, q9, h, h2, h3]
            refine ⟨_, Or_c r.c _, ?_⟩
            (first | refine q7 [] _ _ ?_ | refine z7 [] _ _ _ ?_); simp (maxSteps := 2000000) (disch := omega) only [go_sem, ↓reduceIte, reduceCtorEq, Nat.reduceLT, Nat.reducePow, Nat.reduceLeDiff, Nat.reduceAdd, Nat.reduceMul, Nat.reduceSub, Nat.reduceEqDiff, Nat.reduceBEq, Int.reduceToNat, Int.reduceBEq, Int.reduceBNe, hd, cb, x5, j5, j8, q9, h, h2, h3]; (repeat refine ⟨by omega, ?_⟩)
            (first | (refine q4 (hK _ ?_); clear hK K; show AWP _ _ _ _ _) | (refine q5 (hK _ _ (j4 (by kernel_rfl)) ?_); clear hK K; show AWP _ _ _ _ _))
            (repeat refine q0 ?_); (first | refine j0 fun K hK => ?_ | refine x4 (by kernel_rfl) (by kernel_rfl) fun K hK => ?_)
            (first | refine q7 [] _ _ ?_ | refine z7 [] _ _ _ ?_); simp (maxSteps := 2000000) (disch := omega) only [go_sem, ↓reduceIte, reduceCtorEq, Nat.reduceLT, Nat.reducePow, Nat.reduceLeDiff, Nat.reduceAdd, Nat.reduceMul, Nat.reduceSub, Nat.reduceEqDiff, Nat.reduceBEq, Int.reduceToNat, Int.reduceBEq, Int.reduceBNe, hd, cb, x5, j5, j8, q9, h, h2, h3]; (repeat refine ⟨by omega, ?_⟩)
            (first | refine x9 rfl rfl rfl ?_ | refine j9 rfl rfl rfl ?_); simp (maxSteps := 2000000) (disch := omega) only [go_sem, ↓reduceIte, reduceCtorEq, Nat.reduceLT, Nat.reducePow, Nat.reduceLeDiff, Nat.reduceAdd, Nat.reduceMul, Nat.reduceSub, Nat.reduceEqDiff, Nat.reduceBEq, Int.reduceToNat, Int.reduceBEq, Int.reduceBNe, hd, cb, x5, j5, j8, q9, h, h2, h3]
            refine ⟨_, Xor_c _ _, ?_⟩
            (first | refine q7 [] _ _ ?_ | refine z7 [] _ _ _ ?_); simp (maxSteps := 2000000) (disch := omega) only [go_sem, ↓reduceIte, reduceCtorEq, Nat.reduceLT, Nat.reducePow, Nat.reduceLeDiff, Nat.reduceAdd, Nat.reduceMul, Nat.reduceSub, Nat.reduceEqDiff, Nat.reduceBEq, Int.reduceToNat, Int.reduceBEq, Int.reduceBNe, hd, cb, x5, j5, j8, q9, h, h2, h3]; (repeat refine ⟨by omega, ?_⟩)
            (first | (refine q4 (hK _ ?_); clear hK K; show AWP _ _ _ _ _) | (refine q5 (hK _ _ (j4 (by kernel_rfl)) ?_); clear hK K; show AWP _ _ _ _ _))
            (repeat refine q0 ?_); (first | refine j0 fun K hK => ?_ | refine x4 (by kernel_rfl) (by kernel_rfl) fun K hK => ?_); (first | refine q7 [] _ _ ?_ | refine z7 [] _ _ _ ?_); simp (maxSteps := 2000000) (disch := omega) only [go_sem, ↓reduceIte, reduceCtorEq, Nat.reduceLT, Nat.reducePow, Nat.reduceLeDiff, Nat.reduceAdd, Nat.reduceMul, Nat.reduceSub, Nat.reduceEqDiff, Nat.reduceBEq, Int.reduceToNat, Int.reduceBEq, Int.reduceBNe, hd, cb, x5, j5, j8, q9, h, h2, h3]; (repeat refine ⟨by omega, ?_⟩); (first | (refine q4 (hK _ ?_); clear hK K; show AWP _ _ _ _ _) | (refine q5 (hK _ _ (j4 (by kernel_rfl)) ?_); clear hK K; show AWP _ _ _ _ _))
            (repeat refine q0 ?_); (first | refine j0 fun K hK => ?_ | refine x4 (by kernel_rfl) (by kernel_rfl) fun K hK => ?_)
            (first | refine q7 [] _ _ ?_ | refine z7 [] _ _ _ ?_); simp (maxSteps := 2000000) (disch := omega) only [go_sem, ↓reduceIte, reduceCtorEq, Nat.reduceLT, Nat.reducePow, Nat.reduceLeDiff, Nat.reduceAdd, Nat.reduceMul, Nat.reduceSub, Nat.reduceEqDiff, Nat.reduceBEq, Int.reduceToNat, Int.reduceBEq, Int.reduceBNe, hd, cb, x5, j5, j8, q9, h, h2, h3]; (repeat refine ⟨by omega, ?_⟩)
            (first | (refine q4 (hK _ ?_); clear hK K; show loopQ _ _ _ _ _ _) | (refine q5 (hK _ _ (j4 (by kernel_rfl)) ?_); clear hK K; show loopQ _ _ _ _ _ _))
            refine ⟨⟨⟨n, out ++ [⟨(r.v ||| b.v &&& bt) ^^^ bt, r.c ||| bt⟩], ⟨r.v ||| b.v &&& bt, r.c ||| bt⟩⟩, by simp only []; omega, by simp; omega, ?_⟩, by simp only []; omega, ?_⟩
            · simpa [lessGo, hb, hbt] using he
            · refine Weak.list ?_ ?_; (all_goals simp (disch := omega) only [AllF, AllL, j10, le_top, x10, exists_eq_left', Option.some.injEq, go_sem, ↓reduceIte, reduceCtorEq, Nat.reduceLT, Nat.reducePow, Nat.reduceLeDiff, Nat.reduceAdd, Nat.reduceMul, Nat.reduceSub, Nat.reduceEqDiff, Nat.reduceBEq, Int.reduceToNat, Int.reduceBEq, Int.reduceBNe, hd, cb, x5, j5, j8, q9, h, h2, h3]); (all_goals (repeat' (with_reducible apply And.intro))); (all_goals try (first | exact x8 rfl | (refine le_int ?_; omega) | (refine x8 ?_; simp; done)))
              · exact le_grgr (by simp) (by simp) (fun i hlt => catF_snoc out ⟨(r.v ||| b.v &&& bt) ^^^ bt, r.c ||| bt⟩ i hlt)
              · exact ⟨rfl, rfl, by simp, by simp⟩
theorem Less_cube_c (a b : Cube) : ACalls Try.prog 69 [.agg (cb a), .agg (cb b)] (· = [.d (.sl 4 (lessL a b).length (rowC (lessL a b)))]) := Less_cube_c' a b _ rfl
end Go.Proofs.Ytemcdefpihkfpaa
set_option linter.unusedSimpArgs false
set_option linter.unusedVariables false
namespace Go.Proofs.Ytemcdefpihkfpaa
open Go.Proofs.Ytemcdefpihkfpaa.AL
end Go.Proofs.Ytemcdefpihkfpaa
set_option linter.unusedSimpArgs false
set_option linter.unusedVariables false
namespace Go.Proofs.Ytemcdefpihkfpaa
open Go.Proofs.Ytemcdefpihkfpaa.AL
theorem rowC_at (L : List Cube) (i : Nat) : rowC L i = cb (L.getD i ⟨0, 0⟩) := rfl
def idxF {α : Type} (p : α → Bool) : List α → Nat → Int
  | [], _ => -1
  | x :: r, k => if p x then (k : Int) else idxF p r (k + 1)
theorem idxF_any {α : Type} (p : α → Bool) : ∀ (l : List α) (k : Nat), decide (idxF p l k ≥ 0) = l.any p
  | [], k => rfl
  | x :: r, k => by
    unfold idxF
    cases h : p x
    · simp only [Bool.false_eq_true, if_false, List.any_cons, h, Bool.false_or]; exact idxF_any p r (k + 1)
    · simp only [if_true, List.any_cons, h, Bool.true_or]; exact decide_eq_true (by omega)
theorem idxF_lt {α : Type} (p : α → Bool) : ∀ (l : List α) (k : Nat), idxF p l k = -1 ∨ ∃ j : Nat, idxF p l k = (j : Int) ∧ k ≤ j ∧ j < k + l.length
  | [], k => .inl rfl
  | x :: r, k => by
    unfold idxF
    split
    · exact .inr ⟨k, rfl, Nat.le_refl _, by simp⟩
    · rcases idxF_lt p r (k + 1) with h | ⟨j, h1, h2, h3⟩
      · exact .inl h
      · exact .inr ⟨j, h1, by omega, by simp; omega⟩
def indexI (l : List Cube) (g : FuncId) (caps : List PV) (p : Cube → Bool) (R : Int) (s : {i : Nat // i ≤ l.length ∧ idxF p (l.drop i) i = R}) : ASt :=
  ⟨[(8, .p (.d (.v (.int .i64 (s.val : Int))))), (7, .p (.d (.v (.int .i64 (l.length : Int))))), (1, .p (.fn (.func g) [] caps)), (0, .p (.d (.sl 4 l.length (rowC l))))], []⟩
theorem IndexFunc_c (g : FuncId) (caps : List PV) (p : Cube → Bool) (l : List Cube) (hl : l.length ≤ 140737488355328) (hp : ∀ k ∈ l, ACalls Try.prog g (.agg (cb k) :: caps) (· = [.d (.v (.bool (p k)))])) :
    ACalls Try.prog 35 [.d (.sl 4 l.length (rowC l)), .fn (.func g) [] caps] (· = [.d (.v (.int .i64 (idxF p l 0)))]) := by
  obtain ⟨R, hR⟩ : ∃ R, idxF p l 0 = R := ⟨_, rfl⟩
  rw [hR]
  refine z10 Try.func35 rfl (by decide +kernel) (by rw [Try.ntmps35]; simp) ?_; rw [Try.ntmps35]; simp only [frOf]
  (repeat (first | refine q0 ?_ | refine x7 rfl ?_ | refine j7 rfl ?_ | refine z6 ?_ | (refine j0 fun K hK => ?_) | (refine x4 (by kernel_rfl) (by kernel_rfl) fun K hK => ?_) | ((first | refine q6 ?_ | refine x6 ?_ | ((first | refine q4 (hK _ ?_) | refine q5 (hK _ _ (j4 (by kernel_rfl)) ?_)); clear hK K)); (first | show AWP _ _ _ _ _ | ((try simp only [j6]); first | show loopQ _ _ _ _ _ _ | show cutQ _ _ _ _ | show AWP _ _ _ _ _))) | ((first | refine q8 [] rfl ?_ | refine z8 [] rfl ?_); simp (maxSteps := 2000000) (disch := omega) only [go_sem, seval, hd, cb, x5, j5]; (repeat (first | refine ⟨by omega, ?_⟩ | refine ⟨True.intro, ?_⟩)))))
  refine awp_loop (indexI l g caps p R) (fun s => l.length - s.val) ⟨0, by omega, by rw [List.drop_zero]; exact hR⟩ ?_ (fun s => ?_)
  · unfold indexI
    refine Weak.list ?_ ?_; (all_goals simp (disch := omega) only [AllF, AllL, j10, le_top, x10, exists_eq_left', Option.some.injEq, go_sem, seval, hd, cb, x5, j5]); (all_goals (repeat' (with_reducible apply And.intro))); (all_goals try (first | exact x8 rfl | (refine le_int ?_; omega) | (refine x8 ?_; simp; done)))
  obtain ⟨i, hi, he⟩ := s
  unfold indexI
  by_cases hn : i < l.length
  · rw [drop_getD l i ⟨0, 0⟩ hn] at he
    have r1 := rowC_at l i
    have hk := hp _ (getD_in hn ⟨0, 0⟩)
    generalize l.getD i ⟨0, 0⟩ = K at he r1 hk
    unfold idxF at he
    cases hb : p K
    all_goals
      rw [hb] at he hk
      simp only [Bool.false_eq_true, if_false, if_true] at he
      (repeat (first | refine q0 ?_ | refine x7 rfl ?_ | refine j7 rfl ?_ | refine z6 ?_ | (refine j0 fun K hK => ?_) | (refine x4 (by kernel_rfl) (by kernel_rfl) fun K hK => ?_) | ((first | refine q6 ?_ | refine x6 ?_ | ((first | refine q4 (hK _ ?_) | refine q5 (hK _ _ (j4 (by kernel_rfl)) ?_)); clear hK K)); (first | show AWP _ _ _ _ _ | ((try simp only [j6]); first | show loopQ _ _ _ _ _ _ | show cutQ _ _ _ _ | show AWP _ _ _ _ _))) | ((first | refine x9 rfl rfl rfl ?_ | refine j9 rfl rfl rfl ?_); simp (maxSteps := 2000000) (disch := omega) only [go_sem, seval, hd, cb, x5, j5, r1]; (first | refine ⟨_, hk, ?_⟩)) | ((first | refine q8 [] rfl ?_ | refine z8 [] rfl ?_); simp (maxSteps := 2000000) (disch := omega) only [go_sem, seval, hd, cb, x5, j5, r1]; (repeat (first | refine ⟨by omega, ?_⟩ | refine ⟨True.intro, ?_⟩)))))
    · refine ⟨⟨i + 1, by omega, he⟩, by simp only []; omega, ?_⟩
      refine Weak.list ?_ ?_; (all_goals simp (disch := omega) only [AllF, AllL, j10, le_top, x10, exists_eq_left', Option.some.injEq, go_sem, seval, hd, cb, x5, j5, r1]); (all_goals (repeat' (with_reducible apply And.intro))); (all_goals try (first | exact x8 rfl | (refine le_int ?_; omega) | (refine x8 ?_; simp; done)))
    · refine q10 ⟨_, ?_, rfl⟩; rw [Try.results35]; simp (disch := omega) only [ResVars, ResVar, ptrLoc, go_sem, seval, hd, cb, x5, j5, r1]
      rw [he]
  · have : i = l.length := by omega
    subst this
    rw [List.drop_length] at he
    unfold idxF at he
    (repeat (first | refine q0 ?_ | refine x7 rfl ?_ | refine j7 rfl ?_ | refine z6 ?_ | (refine j0 fun K hK => ?_) | (refine x4 (by kernel_rfl) (by kernel_rfl) fun K hK => ?_) | ((first | refine q6 ?_ | refine x6 ?_ | ((first | refine q4 (hK _ ?_) | refine q5 (hK _ _ (j4 (by kernel_rfl)) ?_)); clear hK K)); (first | show AWP _ _ _ _ _ | ((try simp only [j6]); first | show loopQ _ _ _ _ _ _ | show cutQ _ _ _ _ | show AWP _ _ _ _ _))) | ((first | refine q8 [] rfl ?_ | refine z8 [] rfl ?_); simp (maxSteps := 2000000) (disch := omega) only [go_sem, seval, hd, cb, x5, j5]; (repeat (first | refine ⟨by omega, ?_⟩ | refine ⟨True.intro, ?_⟩)))))
    refine q10 ⟨_, ?_, rfl⟩; rw [Try.results35]; simp (disch := omega) only [ResVars, ResVar, ptrLoc, go_sem, seval, hd, cb, x5, j5]
    rw [he]
theorem ContainsFunc_c (g : FuncId) (caps : List PV) (p : Cube → Bool) (l : List Cube) (hl : l.length ≤ 140737488355328) (hp : ∀ k ∈ l, ACalls Try.prog g (.agg (cb k) :: caps) (· = [.d (.v (.bool (p k)))])) :
    ACalls Try.prog 14 [.d (.sl 4 l.length (rowC l)), .fn (.func g) [] caps] (· = [.d (.v (.bool (l.any p)))]) := by
  have ix := IndexFunc_c g caps p l hl hp
  have ia := idxF_any p l 0
  generalize idxF p l 0 = R at ix ia
  refine z10 Try.func14 rfl (by decide +kernel) (by rw [Try.ntmps14]; simp) ?_; rw [Try.ntmps14]; simp only [frOf]
  (repeat (first | refine q0 ?_ | refine x7 rfl ?_ | refine j7 rfl ?_ | refine z6 ?_ | (refine j0 fun K hK => ?_) | (refine x4 (by kernel_rfl) (by kernel_rfl) fun K hK => ?_) | ((first | refine q6 ?_ | refine x6 ?_ | ((first | refine q4 (hK _ ?_) | refine q5 (hK _ _ (j4 (by kernel_rfl)) ?_)); clear hK K)); (first | show AWP _ _ _ _ _ | ((try simp only [j6]); first | show loopQ _ _ _ _ _ _ | show cutQ _ _ _ _ | show AWP _ _ _ _ _))) | ((first | refine x9 rfl rfl rfl ?_ | refine j9 rfl rfl rfl ?_); simp (maxSteps := 2000000) (disch := omega) only [go_sem, seval, hd, cb, x5, j5]; (first | refine ⟨_, ix, ?_⟩)) | ((first | refine q8 [] rfl ?_ | refine z8 [] rfl ?_); simp (maxSteps := 2000000) (disch := omega) only [go_sem, seval, hd, cb, x5, j5]; (repeat (first | refine ⟨by omega, ?_⟩ | refine ⟨True.intro, ?_⟩)))))
  refine q10 ⟨_, ?_, rfl⟩; rw [Try.results14]; simp (disch := omega) only [ResVars, ResVar, ptrLoc, go_sem, seval, hd, cb, x5, j5]
  rw [ia]
theorem notSound_c (k : Cube) : ACalls Try.prog 59 [.agg (cb k)] (· = [.d (.v (.bool (!k.sound)))]) := by
  refine z10 Try.func59 rfl (by decide +kernel) (by rw [Try.ntmps59]; simp) ?_; rw [Try.ntmps59]; simp only [frOf]
  (repeat (first | refine q0 ?_ | refine x7 rfl ?_ | refine j7 rfl ?_ | refine z6 ?_ | (refine j0 fun K hK => ?_) | (refine x4 (by kernel_rfl) (by kernel_rfl) fun K hK => ?_) | ((first | refine q6 ?_ | refine x6 ?_ | ((first | refine q4 (hK _ ?_) | refine q5 (hK _ _ (j4 (by kernel_rfl)) ?_)); clear hK K)); (first | show AWP _ _ _ _ _ | ((try simp only [j6]); first | show loopQ _ _ _ _ _ _ | show cutQ _ _ _ _ | show AWP _ _ _ _ _))) | ((first | refine x9 rfl rfl rfl ?_ | refine j9 rfl rfl rfl ?_); simp (maxSteps := 2000000) (disch := omega) only [go_sem, seval, hd, cb, x5, j5]; (first | refine ⟨_, Sound_c k, ?_⟩)) | ((first | refine q8 [] rfl ?_ | refine z8 [] rfl ?_); simp (maxSteps := 2000000) (disch := omega) only [go_sem, seval, hd, cb, x5, j5]; (repeat (first | refine ⟨by omega, ?_⟩ | refine ⟨True.intro, ?_⟩)))))
  refine q10 ⟨_, ?_, rfl⟩; rw [Try.results59]; simp (disch := omega) only [ResVars, ResVar, ptrLoc, go_sem, seval, hd, cb, x5, j5]
def soundP (l : List Cube) : Bool := decide (l.length ≤ 200) && l.all Cube.sound
theorem any_not {α : Type} (p : α → Bool) (l : List α) : (l.any fun x => !p x) = !l.all p := by
  induction l with
  | nil => rfl
  | cons x l ih => simp only [List.any_cons, List.all_cons, ih, Bool.not_and]
theorem SoundP_c (l : List Cube) (hl : l.length ≤ 140737488355328) : ACalls Try.prog 43 [.d (.sl 4 l.length (rowC l))] (· = [.d (.v (.bool (soundP l)))]) := by
  have cf := ContainsFunc_c 59 [] (fun k => !k.sound) l hl (fun k _ => notSound_c k)
  rw [any_not] at cf
  unfold soundP
  by_cases h : l.length ≤ 200
  · rw [decide_eq_true h, Bool.true_and]
    refine z10 Try.func43 rfl (by decide +kernel) (by rw [Try.ntmps43]; simp) ?_; rw [Try.ntmps43]; simp only [frOf]
    (repeat (first | refine q0 ?_ | refine x7 rfl ?_ | refine j7 rfl ?_ | refine z6 ?_ | (refine j0 fun K hK => ?_) | (refine x4 (by kernel_rfl) (by kernel_rfl) fun K hK => ?_) | ((first | refine q6 ?_ | refine x6 ?_ | ((first | refine q4 (hK _ ?_) | refine q5 (hK _ _ (j4 (by kernel_rfl)) ?_)); clear hK K)); (first | show AWP _ _ _ _ _ | ((try simp only [j6]); first | show loopQ _ _ _ _ _ _ | show cutQ _ _ _ _ | show AWP _ _ _ _ _))) | ((first | refine x9 rfl rfl rfl ?_ | refine j9 rfl rfl rfl ?_); simp (maxSteps := 2000000) (disch := omega) only [go_sem, seval, hd, cb, x5, j5]; (first | refine ⟨_, cf, ?_⟩)) | ((first | refine q8 [] rfl ?_ | refine z8 [] rfl ?_); simp (maxSteps := 2000000) (disch := omega) only [go_sem, seval, hd, cb, x5, j5]; (repeat (first | refine ⟨by omega, ?_⟩ | refine ⟨True.intro, ?_⟩)))))
    refine q10 ⟨_, ?_, rfl⟩; rw [Try.results43]; simp (disch := omega) only [ResVars, ResVar, ptrLoc, go_sem, seval, hd, cb, x5, j5]
    rw [Bool.not_not]
  · rw [decide_eq_false h, Bool.false_and]
    refine z10 Try.func43 rfl (by decide +kernel) (by rw [Try.ntmps43]; simp) ?_; rw [Try.ntmps43]; simp only [frOf]
    (repeat (first | refine q0 ?_ | refine x7 rfl ?_ | refine j7 rfl ?_ | refine z6 ?_ | (refine j0 fun K hK => ?_) | (refine x4 (by kernel_rfl) (by kernel_rfl) fun K hK => ?_) | ((first | refine q6 ?_ | refine x6 ?_ | ((first | refine q4 (hK _ ?_) | refine q5 (hK _ _ (j4 (by kernel_rfl)) ?_)); clear hK K)); (first | show AWP _ _ _ _ _ | ((try simp only [j6]); first | show loopQ _ _ _ _ _ _ | show cutQ _ _ _ _ | show AWP _ _ _ _ _))) | ((first | refine x9 rfl rfl rfl ?_ | refine j9 rfl rfl rfl ?_); simp (maxSteps := 2000000) (disch := omega) only [go_sem, seval, hd, cb, x5, j5]; (first | refine ⟨_, cf, ?_⟩)) | ((first | refine q8 [] rfl ?_ | refine z8 [] rfl ?_); simp (maxSteps := 2000000) (disch := omega) only [go_sem, seval, hd, cb, x5, j5]; (repeat (first | refine ⟨by omega, ?_⟩ | refine ⟨True.intro, ?_⟩)))))
    refine q10 ⟨_, ?_, rfl⟩; rw [Try.results43]; simp (disch := omega) only [ResVars, ResVar, ptrLoc, go_sem, seval, hd, cb, x5, j5]
theorem has1_c (k : Cube) (h : BitVec 128) : ACalls Try.prog 40 [.agg (cb k), .d (.bx (hd h))] (· = [.d (.v (.bool (hasC k h)))]) := by
  refine z10 Try.func40 rfl (by decide +kernel) (by rw [Try.ntmps40]; simp) ?_; rw [Try.ntmps40]; simp only [frOf]
  (repeat (first | refine q0 ?_ | refine x7 rfl ?_ | refine j7 rfl ?_ | refine z6 ?_ | (refine j0 fun K hK => ?_) | (refine x4 (by kernel_rfl) (by kernel_rfl) fun K hK => ?_) | ((first | refine q6 ?_ | refine x6 ?_ | ((first | refine q4 (hK _ ?_) | refine q5 (hK _ _ (j4 (by kernel_rfl)) ?_)); clear hK K)); (first | show AWP _ _ _ _ _ | ((try simp only [j6]); first | show loopQ _ _ _ _ _ _ | show cutQ _ _ _ _ | show AWP _ _ _ _ _))) | ((first | refine x9 rfl rfl rfl ?_ | refine j9 rfl rfl rfl ?_); simp (maxSteps := 2000000) (disch := omega) only [go_sem, seval, hd, cb, x5, j5]; (first | refine ⟨_, Has_c k h, ?_⟩)) | ((first | refine q8 [] rfl ?_ | refine z8 [] rfl ?_); simp (maxSteps := 2000000) (disch := omega) only [go_sem, seval, hd, cb, x5, j5]; (repeat (first | refine ⟨by omega, ?_⟩ | refine ⟨True.intro, ?_⟩)))))
  refine q10 ⟨_, ?_, rfl⟩; rw [Try.results40]; simp (disch := omega) only [ResVars, ResVar, ptrLoc, go_sem, seval, hd, cb, x5, j5]
def hasP (l : List Cube) (h : BitVec 128) : Bool := l.any (hasC · h)
theorem HasP_c (l : List Cube) (h : BitVec 128) (hl : l.length ≤ 140737488355328) : ACalls Try.prog 23 [.d (.sl 4 l.length (rowC l)), .agg (hd h)] (· = [.d (.v (.bool (hasP l h)))]) := by
  have cf := ContainsFunc_c 40 [.d (.bx (hd h))] (fun k => hasC k h) l hl (fun k _ => has1_c k h)
  unfold hd at cf
  refine z10 Try.func23 rfl (by decide +kernel) (by rw [Try.ntmps23]; simp) ?_; rw [Try.ntmps23]; simp only [frOf]
  (repeat (first | refine q0 ?_ | refine x7 rfl ?_ | refine j7 rfl ?_ | refine z6 ?_ | (refine j0 fun K hK => ?_) | (refine x4 (by kernel_rfl) (by kernel_rfl) fun K hK => ?_) | ((first | refine q6 ?_ | refine x6 ?_ | ((first | refine q4 (hK _ ?_) | refine q5 (hK _ _ (j4 (by kernel_rfl)) ?_)); clear hK K)); (first | show AWP _ _ _ _ _ | ((try simp only [j6]); first | show loopQ _ _ _ _ _ _ | show cutQ _ _ _ _ | show AWP _ _ _ _ _))) | ((first | refine x9 rfl rfl rfl ?_ | refine j9 rfl rfl rfl ?_); simp (maxSteps := 2000000) (disch := omega) only [go_sem, seval, hd, cb, x5, j5]; (first | refine ⟨_, cf, ?_⟩)) | ((first | refine q8 [] rfl ?_ | refine z8 [] rfl ?_); simp (maxSteps := 2000000) (disch := omega) only [go_sem, seval, hd, cb, x5, j5]; (repeat (first | refine ⟨by omega, ?_⟩ | refine ⟨True.intro, ?_⟩)))))
  refine q10 ⟨_, ?_, rfl⟩; rw [Try.results23]; simp (disch := omega) only [ResVars, ResVar, ptrLoc, go_sem, seval, hd, cb, x5, j5]
  rfl
theorem Clip_c (n : Nat) (f : Nat → List Dat) (hn : n ≤ 140737488355328) : ACalls Try.prog 31 [.d (.sl 4 n f)] (· = [.d (.sl 4 n f)]) := by
  refine z10 Try.func31 rfl (by decide +kernel) (by rw [Try.ntmps31]; simp) ?_; rw [Try.ntmps31]; simp only [frOf]
  (repeat (first | refine q0 ?_ | refine x7 rfl ?_ | refine j7 rfl ?_ | refine z6 ?_ | (refine j0 fun K hK => ?_) | (refine x4 (by kernel_rfl) (by kernel_rfl) fun K hK => ?_) | ((first | refine q6 ?_ | refine x6 ?_ | ((first | refine q4 (hK _ ?_) | refine q5 (hK _ _ (j4 (by kernel_rfl)) ?_)); clear hK K)); (first | show AWP _ _ _ _ _ | ((try simp only [j6]); first | show loopQ _ _ _ _ _ _ | show cutQ _ _ _ _ | show AWP _ _ _ _ _))) | ((first | refine q8 [] rfl ?_ | refine z8 [] rfl ?_); simp (maxSteps := 2000000) (disch := omega) only [go_sem, seval, hd, cb, x5, j5]; (repeat (first | refine ⟨by omega, ?_⟩ | refine ⟨True.intro, ?_⟩)))))
  refine q10 ⟨_, ?_, rfl⟩; rw [Try.results31]; simp (disch := omega) only [ResVars, ResVar, ptrLoc, go_sem, seval, hd, cb, x5, j5]
  rfl
def pickP (l : List Cube) : Option Cube := l.find? Cube.sound
theorem idxF_find {α : Type} (p : α → Bool) (z : α) : ∀ (l : List α) (k : Nat), (l.find? p = none ∧ idxF p l k = -1) ∨ ∃ j x, l.find? p = some x ∧ idxF p l k = ((k + j : Nat) : Int) ∧ j < l.length ∧ l.getD j z = x
  | [], k => .inl ⟨rfl, rfl⟩
  | x :: r, k => by
    unfold idxF
    cases h : p x
    · simp only [Bool.false_eq_true, if_false, List.find?_cons, h]
      rcases idxF_find p z r (k + 1) with h | ⟨j, y, h1, h2, h3, h4⟩
      · exact .inl h
      · exact .inr ⟨j + 1, y, h1, by rw [h2]; congr 1; omega, by simp; omega, by simpa using h4⟩
    · simp only [if_true, List.find?_cons, h]
      exact .inr ⟨0, x, rfl, rfl, by simp, rfl⟩
theorem Pick_c (l : List Cube) (hl : l.length ≤ 140737488355328) : ACalls Try.prog 67 [.d (.sl 4 l.length (rowC l))] (· = [.agg (hd ((pickP l).getD ⟨0, 0⟩).v), .d (.v (.bool (pickP l).isSome))]) := by
  have ix := IndexFunc_c 16 [] Cube.sound l hl (fun k _ => Sound_c k)
  unfold pickP
  rcases idxF_find Cube.sound ⟨0, 0⟩ l 0 with ⟨h1, h2⟩ | ⟨j, x, h1, h2, h3, h4⟩
  · rw [h2] at ix
    rw [h1]
    refine z10 Try.func67 rfl (by decide +kernel) (by rw [Try.ntmps67]; simp) ?_; rw [Try.ntmps67]; simp only [frOf]
    (repeat (first | refine q0 ?_ | refine x7 rfl ?_ | refine j7 rfl ?_ | refine z6 ?_ | (refine j0 fun K hK => ?_) | (refine x4 (by kernel_rfl) (by kernel_rfl) fun K hK => ?_) | ((first | refine q6 ?_ | refine x6 ?_ | ((first | refine q4 (hK _ ?_) | refine q5 (hK _ _ (j4 (by kernel_rfl)) ?_)); clear hK K)); (first | show AWP _ _ _ _ _ | ((try simp only [j6]); first | show loopQ _ _ _ _ _ _ | show cutQ _ _ _ _ | show AWP _ _ _ _ _))) | ((first | refine x9 rfl rfl rfl ?_ | refine j9 rfl rfl rfl ?_); simp (maxSteps := 2000000) (disch := omega) only [go_sem, seval, hd, cb, x5, j5]; (first | refine ⟨_, ix, ?_⟩)) | ((first | refine q8 [] rfl ?_ | refine z8 [] rfl ?_); simp (maxSteps := 2000000) (disch := omega) only [go_sem, seval, hd, cb, x5, j5]; (repeat (first | refine ⟨by omega, ?_⟩ | refine ⟨True.intro, ?_⟩)))))
    refine q10 ⟨_, ?_, rfl⟩; rw [Try.results67]; simp (disch := omega) only [ResVars, ResVar, ptrLoc, go_sem, seval, hd, cb, x5, j5]
    first | (simp only [hi_zero, lo_zero]; done) | (rw [show hi 0#128 = 0 from hi_zero, show lo 0#128 = 0 from lo_zero])
  · rw [h2, Nat.zero_add] at ix
    rw [h1]
    have r1 := rowC_at l j
    rw [h4] at r1
    refine z10 Try.func67 rfl (by decide +kernel) (by rw [Try.ntmps67]; simp) ?_; rw [Try.ntmps67]; simp only [frOf]
    (repeat (first | refine q0 ?_ | refine x7 rfl ?_ | refine j7 rfl ?_ | refine z6 ?_ | (refine j0 fun K hK => ?_) | (refine x4 (by kernel_rfl) (by kernel_rfl) fun K hK => ?_) | ((first | refine q6 ?_ | refine x6 ?_ | ((first | refine q4 (hK _ ?_) | refine q5 (hK _ _ (j4 (by kernel_rfl)) ?_)); clear hK K)); (first | show AWP _ _ _ _ _ | ((try simp only [j6]); first | show loopQ _ _ _ _ _ _ | show cutQ _ _ _ _ | show AWP _ _ _ _ _))) | ((first | refine x9 rfl rfl rfl ?_ | refine j9 rfl rfl rfl ?_); simp (maxSteps := 2000000) (disch := omega) only [go_sem, seval, hd, cb, x5, j5, r1]; (first | refine ⟨_, ix, ?_⟩)) | ((first | refine q8 [] rfl ?_ | refine z8 [] rfl ?_); simp (maxSteps := 2000000) (disch := omega) only [go_sem, seval, hd, cb, x5, j5, r1]; (repeat (first | refine ⟨by omega, ?_⟩ | refine ⟨True.intro, ?_⟩)))))
    refine q10 ⟨_, ?_, rfl⟩; rw [Try.results67]; simp (disch := omega) only [ResVars, ResVar, ptrLoc, go_sem, seval, hd, cb, x5, j5, r1]
def spareBy (l : List Cube) (n i : Nat) : Bool := i != n && (withinC (l.getD n ⟨0, 0⟩) (l.getD i ⟨0, 0⟩) && (l.getD n ⟨0, 0⟩ != l.getD i ⟨0, 0⟩ || decide (i < n)))
def spareP (l : List Cube) (n : Nat) : Bool := (List.range l.length).any (spareBy l n) || !(l.getD n ⟨0, 0⟩).sound
theorem eqI_cb (a b : Cube) : eqI [hi a.v, lo a.v, hi a.c, lo a.c] [hi b.v, lo b.v, hi b.c, lo b.c] = (a == b) := by
  have h1 := j8 a.v b.v
  have h2 := j8 a.c b.c
  simp only [eqI, Bool.and_true] at h1 h2 ⊢
  rw [← Bool.and_assoc, h1, h2]
  cases a; cases b
  rw [Bool.eq_iff_iff]
  simp
def spareI (l : List Cube) (n : Nat) (s : {i : Nat // i ≤ l.length ∧ ∀ j, j < i → spareBy l n j = false}) : ASt :=
  ⟨[(9, .p (.d (.v (.int .i64 (s.val : Int))))), (8, .p (.d (.v (.int .i64 (l.length : Int))))), (7, .p (.d (.sl 4 l.length (rowC l)))), (1, .p (.d (.v (.int .i64 (n : Int))))), (0, .p (.d (.sl 4 l.length (rowC l))))], []⟩
set_option maxRecDepth 100000 in
set_option maxHeartbeats 1000000 in
theorem spare_c (l : List Cube) (n : Nat) (hl : l.length ≤ 140737488355328) (hn : n < l.length) : ACalls Try.prog 75 [.d (.sl 4 l.length (rowC l)), .d (.v (.int .i64 (n : Int)))] (· = [.d (.v (.bool (spareP l n)))]) := by
  have rn := rowC_at l n
  obtain ⟨N, hN⟩ : ∃ N, l.getD n ⟨0, 0⟩ = N := ⟨_, rfl⟩
  rw [hN] at rn
  refine z10 Try.func75 rfl (by decide +kernel) (by rw [Try.ntmps75]; simp) ?_; rw [Try.ntmps75]; simp only [frOf]
  (repeat (first | refine q0 ?_ | refine x7 rfl ?_ | refine j7 rfl ?_ | refine z6 ?_ | (refine j0 fun K hK => ?_) | (refine x4 (by kernel_rfl) (by kernel_rfl) fun K hK => ?_) | ((first | refine q6 ?_ | refine x6 ?_ | ((first | refine q4 (hK _ ?_) | refine q5 (hK _ _ (j4 (by kernel_rfl)) ?_)); clear hK K)); (first | show AWP _ _ _ _ _ | ((try simp only [j6]); first | show loopQ _ _ _ _ _ _ | show cutQ _ _ _ _ | show AWP _ _ _ _ _))) | ((first | refine q8 [] rfl ?_ | refine z8 [] rfl ?_); simp (maxSteps := 2000000) (disch := omega) only [go_sem, seval, hd, cb, x5, j5]; (repeat (first | refine ⟨by omega, ?_⟩ | refine ⟨True.intro, ?_⟩)))))
  refine awp_loop (spareI l n) (fun s => l.length - s.val) ⟨0, by omega, fun j hj => by omega⟩ ?_ (fun s => ?_)
  · unfold spareI
    refine Weak.list ?_ ?_; (all_goals simp (disch := omega) only [AllF, AllL, j10, le_top, x10, exists_eq_left', Option.some.injEq, go_sem, seval, hd, cb, x5, j5]); (all_goals (repeat' (with_reducible apply And.intro))); (all_goals try (first | exact x8 rfl | (refine le_int ?_; omega) | (refine x8 ?_; simp; done)))
  obtain ⟨i, hi, he⟩ := s
  unfold spareI
  by_cases hlt : i < l.length
  · have ri := rowC_at l i
    have sp : spareBy l n i = (i != n && (withinC N (l.getD i ⟨0, 0⟩) && (N != l.getD i ⟨0, 0⟩ || decide (i < n)))) := by unfold spareBy; rw [hN]
    have step : spareBy l n i = false → ∀ j, j < i + 1 → spareBy l n j = false := fun h j hj => by
      by_cases e : j = i
      · subst e; exact h
      · exact he j (by omega)
    have stop : spareBy l n i = true → spareP l n = true := fun h => by
      unfold spareP
      rw [List.any_eq_true.2 ⟨i, List.mem_range.2 hlt, h⟩]; rfl
    generalize l.getD i ⟨0, 0⟩ = K at ri sp
    have wc := Within_c N K
    by_cases hin : i = n
    · have h0 : spareBy l n i = false := by rw [sp, hin]; simp
      have q : ((i : Int) != (n : Int)) = false := by simp [hin]
      (repeat (first | refine q0 ?_ | refine x7 rfl ?_ | refine j7 rfl ?_ | refine z6 ?_ | (refine j0 fun K hK => ?_) | (refine x4 (by kernel_rfl) (by kernel_rfl) fun K hK => ?_) | ((first | refine q6 ?_ | refine x6 ?_ | ((first | refine q4 (hK _ ?_) | refine q5 (hK _ _ (j4 (by kernel_rfl)) ?_)); clear hK K)); (first | show AWP _ _ _ _ _ | ((try simp only [j6]); first | show loopQ _ _ _ _ _ _ | show cutQ _ _ _ _ | show AWP _ _ _ _ _))) | ((first | refine x9 rfl rfl rfl ?_ | refine j9 rfl rfl rfl ?_); simp (maxSteps := 2000000) (disch := omega) only [go_sem, seval, hd, cb, x5, j5, rn, ri, q]; (first | refine ⟨_, wc, ?_⟩)) | ((first | refine q8 [] rfl ?_ | refine z8 [] rfl ?_); simp (maxSteps := 2000000) (disch := omega) only [go_sem, seval, hd, cb, x5, j5, rn, ri, q]; (repeat (first | refine ⟨by omega, ?_⟩ | refine ⟨True.intro, ?_⟩)))))
      refine ⟨⟨i + 1, by omega, step h0⟩, by simp only []; omega, ?_⟩
      refine Weak.list ?_ ?_; (all_goals simp (disch := omega) only [AllF, AllL, j10, le_top, x10, exists_eq_left', Option.some.injEq, go_sem, seval, hd, cb, x5, j5, rn, ri, q]); (all_goals (repeat' (with_reducible apply And.intro))); (all_goals try (first | exact x8 rfl | (refine le_int ?_; omega) | (refine x8 ?_; simp; done)))
    · have q : ((i : Int) != (n : Int)) = true := by simp; omega
      have q2 : (i != n) = true := by simpa using hin
      rw [q2, Bool.true_and] at sp
      cases hw : withinC N K
      · rw [hw] at wc sp
        (repeat (first | refine q0 ?_ | refine x7 rfl ?_ | refine j7 rfl ?_ | refine z6 ?_ | (refine j0 fun K hK => ?_) | (refine x4 (by kernel_rfl) (by kernel_rfl) fun K hK => ?_) | ((first | refine q6 ?_ | refine x6 ?_ | ((first | refine q4 (hK _ ?_) | refine q5 (hK _ _ (j4 (by kernel_rfl)) ?_)); clear hK K)); (first | show AWP _ _ _ _ _ | ((try simp only [j6]); first | show loopQ _ _ _ _ _ _ | show cutQ _ _ _ _ | show AWP _ _ _ _ _))) | ((first | refine x9 rfl rfl rfl ?_ | refine j9 rfl rfl rfl ?_); simp (maxSteps := 2000000) (disch := omega) only [go_sem, seval, hd, cb, x5, j5, rn, ri, q]; (first | refine ⟨_, wc, ?_⟩)) | ((first | refine q8 [] rfl ?_ | refine z8 [] rfl ?_); simp (maxSteps := 2000000) (disch := omega) only [go_sem, seval, hd, cb, x5, j5, rn, ri, q]; (repeat (first | refine ⟨by omega, ?_⟩ | refine ⟨True.intro, ?_⟩)))))
        refine ⟨⟨i + 1, by omega, step sp⟩, by simp only []; omega, ?_⟩
        refine Weak.list ?_ ?_; (all_goals simp (disch := omega) only [AllF, AllL, j10, le_top, x10, exists_eq_left', Option.some.injEq, go_sem, seval, hd, cb, x5, j5, rn, ri, q]); (all_goals (repeat' (with_reducible apply And.intro))); (all_goals try (first | exact x8 rfl | (refine le_int ?_; omega) | (refine x8 ?_; simp; done)))
      · rw [hw, Bool.true_and] at sp
        rw [hw] at wc
        have eq := eqI_cb N K
        have nb : (N != K) = !(N == K) := rfl
        rw [nb] at sp
        cases hq : (N == K)
        · rw [hq] at eq sp
          (repeat (first | refine q0 ?_ | refine x7 rfl ?_ | refine j7 rfl ?_ | refine z6 ?_ | (refine j0 fun K hK => ?_) | (refine x4 (by kernel_rfl) (by kernel_rfl) fun K hK => ?_) | ((first | refine q6 ?_ | refine x6 ?_ | ((first | refine q4 (hK _ ?_) | refine q5 (hK _ _ (j4 (by kernel_rfl)) ?_)); clear hK K)); (first | show AWP _ _ _ _ _ | ((try simp only [j6]); first | show loopQ _ _ _ _ _ _ | show cutQ _ _ _ _ | show AWP _ _ _ _ _))) | ((first | refine x9 rfl rfl rfl ?_ | refine j9 rfl rfl rfl ?_); simp (maxSteps := 2000000) (disch := omega) only [go_sem, seval, hd, cb, x5, j5, rn, ri, q, eq]; (first | refine ⟨_, wc, ?_⟩)) | ((first | refine q8 [] rfl ?_ | refine z8 [] rfl ?_); simp (maxSteps := 2000000) (disch := omega) only [go_sem, seval, hd, cb, x5, j5, rn, ri, q, eq]; (repeat (first | refine ⟨by omega, ?_⟩ | refine ⟨True.intro, ?_⟩)))))
          rw [stop sp]
          refine q10 ⟨_, ?_, rfl⟩; rw [Try.results75]; simp (disch := omega) only [ResVars, ResVar, ptrLoc, go_sem, seval, hd, cb, x5, j5, rn, ri, q, eq]
        · rw [hq] at eq sp
          by_cases hl2 : i < n
          · rw [decide_eq_true hl2] at sp
            (repeat (first | refine q0 ?_ | refine x7 rfl ?_ | refine j7 rfl ?_ | refine z6 ?_ | (refine j0 fun K hK => ?_) | (refine x4 (by kernel_rfl) (by kernel_rfl) fun K hK => ?_) | ((first | refine q6 ?_ | refine x6 ?_ | ((first | refine q4 (hK _ ?_) | refine q5 (hK _ _ (j4 (by kernel_rfl)) ?_)); clear hK K)); (first | show AWP _ _ _ _ _ | ((try simp only [j6]); first | show loopQ _ _ _ _ _ _ | show cutQ _ _ _ _ | show AWP _ _ _ _ _))) | ((first | refine x9 rfl rfl rfl ?_ | refine j9 rfl rfl rfl ?_); simp (maxSteps := 2000000) (disch := omega) only [go_sem, seval, hd, cb, x5, j5, rn, ri, q, eq]; (first | refine ⟨_, wc, ?_⟩)) | ((first | refine q8 [] rfl ?_ | refine z8 [] rfl ?_); simp (maxSteps := 2000000) (disch := omega) only [go_sem, seval, hd, cb, x5, j5, rn, ri, q, eq]; (repeat (first | refine ⟨by omega, ?_⟩ | refine ⟨True.intro, ?_⟩)))))
            rw [stop sp]
            refine q10 ⟨_, ?_, rfl⟩; rw [Try.results75]; simp (disch := omega) only [ResVars, ResVar, ptrLoc, go_sem, seval, hd, cb, x5, j5, rn, ri, q, eq]
          · rw [decide_eq_false hl2] at sp
            (repeat (first | refine q0 ?_ | refine x7 rfl ?_ | refine j7 rfl ?_ | refine z6 ?_ | (refine j0 fun K hK => ?_) | (refine x4 (by kernel_rfl) (by kernel_rfl) fun K hK => ?_) | ((first | refine q6 ?_ | refine x6 ?_ | ((first | refine q4 (hK _ ?_) | refine q5 (hK _ _ (j4 (by kernel_rfl)) ?_)); clear hK K)); (first | show AWP _ _ _ _ _ | ((try simp only [j6]); first | show loopQ _ _ _ _ _ _ | show cutQ _ _ _ _ | show AWP _ _ _ _ _))) | ((first | refine x9 rfl rfl rfl ?_ | refine j9 rfl rfl rfl ?_); simp (maxSteps := 2000000) (disch := omega) only [go_sem, seval, hd, cb, x5, j5, rn, ri, q, eq]; (first | refine ⟨_, wc, ?_⟩)) | ((first | refine q8 [] rfl ?_ | refine z8 [] rfl ?_); simp (maxSteps := 2000000) (disch := omega) only [go_sem, seval, hd, cb, x5, j5, rn, ri, q, eq]; (repeat (first | refine ⟨by omega, ?_⟩ | refine ⟨True.intro, ?_⟩)))))
            refine ⟨⟨i + 1, by omega, step sp⟩, by simp only []; omega, ?_⟩
            refine Weak.list ?_ ?_; (all_goals simp (disch := omega) only [AllF, AllL, j10, le_top, x10, exists_eq_left', Option.some.injEq, go_sem, seval, hd, cb, x5, j5, rn, ri, q, eq]); (all_goals (repeat' (with_reducible apply And.intro))); (all_goals try (first | exact x8 rfl | (refine le_int ?_; omega) | (refine x8 ?_; simp; done)))
  · have : i = l.length := by omega
    subst this
    have h0 : (List.range l.length).any (spareBy l n) = false := by
      rw [List.any_eq_false]
      intro j hj
      rw [he j (List.mem_range.1 hj)]; simp
    have sd := Sound_c N
    (repeat (first | refine q0 ?_ | refine x7 rfl ?_ | refine j7 rfl ?_ | refine z6 ?_ | (refine j0 fun K hK => ?_) | (refine x4 (by kernel_rfl) (by kernel_rfl) fun K hK => ?_) | ((first | refine q6 ?_ | refine x6 ?_ | ((first | refine q4 (hK _ ?_) | refine q5 (hK _ _ (j4 (by kernel_rfl)) ?_)); clear hK K)); (first | show AWP _ _ _ _ _ | ((try simp only [j6]); first | show loopQ _ _ _ _ _ _ | show cutQ _ _ _ _ | show AWP _ _ _ _ _))) | ((first | refine x9 rfl rfl rfl ?_ | refine j9 rfl rfl rfl ?_); simp (maxSteps := 2000000) (disch := omega) only [go_sem, seval, hd, cb, x5, j5, rn]; (first | refine ⟨_, sd, ?_⟩)) | ((first | refine q8 [] rfl ?_ | refine z8 [] rfl ?_); simp (maxSteps := 2000000) (disch := omega) only [go_sem, seval, hd, cb, x5, j5, rn]; (repeat (first | refine ⟨by omega, ?_⟩ | refine ⟨True.intro, ?_⟩)))))
    refine q10 ⟨_, ?_, rfl⟩; rw [Try.results75]; simp (disch := omega) only [ResVars, ResVar, ptrLoc, go_sem, seval, hd, cb, x5, j5, rn]
    unfold spareP
    rw [h0, Bool.false_or, hN]
theorem Clone_c (l : List Cube) (hl : l.length ≤ 1099511627776) : ACalls Try.prog 32 [.d (.sl 4 l.length (rowC l))] (· = [.d (.sl 4 l.length (rowC l))]) := by
  by_cases h : l.length = 0
  · rw [h]
    refine acalls_empty fun a c => ?_
    cases a with
    | none =>
      refine z10 Try.func32 rfl (by decide +kernel) (by rw [Try.ntmps32]; simp) ?_; rw [Try.ntmps32]; simp only [frOf]
      (repeat (first | refine q0 ?_ | refine x7 rfl ?_ | refine j7 rfl ?_ | refine z6 ?_ | (refine j0 fun K hK => ?_) | (refine x4 (by kernel_rfl) (by kernel_rfl) fun K hK => ?_) | ((first | refine q6 ?_ | refine x6 ?_ | ((first | refine q4 (hK _ ?_) | refine q5 (hK _ _ (j4 (by kernel_rfl)) ?_)); clear hK K)); (first | show AWP _ _ _ _ _ | ((try simp only [j6]); first | show loopQ _ _ _ _ _ _ | show cutQ _ _ _ _ | show AWP _ _ _ _ _))) | ((first | refine q8 [5] rfl ?_ | refine z8 [5] rfl ?_); simp (maxSteps := 2000000) (disch := omega) only [go_sem, seval, hd, cb, x5, j5]; (repeat (first | refine ⟨by omega, ?_⟩ | refine ⟨True.intro, ?_⟩)))))
      refine awp_slot 2 _ (.p (.d (.sl 4 0 (rowC l)))) rfl le_emp ?_
      refine q10 ⟨_, ?_, rfl⟩; rw [Try.results32]; simp (disch := omega) only [ResVars, ResVar, ptrLoc, go_sem, seval, hd, cb, x5, j5]
    | some a =>
      refine z10 Try.func32 rfl (by decide +kernel) (by rw [Try.ntmps32]; simp) ?_; rw [Try.ntmps32]; simp only [frOf]
      (repeat ((fail_if_success (show AWP _ _ (.region 3 _ _) _ _)); first | refine q0 ?_ | refine x7 rfl ?_ | refine j7 rfl ?_ | refine z6 ?_ | (refine j0 fun K hK => ?_) | (refine x4 (by kernel_rfl) (by kernel_rfl) fun K hK => ?_) | ((first | refine q6 ?_ | refine x6 ?_ | ((first | refine q4 (hK _ ?_) | refine q5 (hK _ _ (j4 (by kernel_rfl)) ?_)); clear hK K)); (first | show AWP _ _ _ _ _ | ((try simp only [j6]); first | show loopQ _ _ _ _ _ _ | show cutQ _ _ _ _ | show AWP _ _ _ _ _))) | ((first | refine q8 [5] rfl ?_ | refine z8 [5] rfl ?_); simp (maxSteps := 2000000) (disch := omega) only [go_sem, seval, hd, cb, x5, j5]; (repeat (first | refine ⟨by omega, ?_⟩ | refine ⟨True.intro, ?_⟩)))))
      refine awp_slot 0 _ (.p (.d (.sl 4 0 (rowC l)))) rfl le_emp ?_
      (repeat (first | refine q0 ?_ | refine x7 rfl ?_ | refine j7 rfl ?_ | refine z6 ?_ | (refine j0 fun K hK => ?_) | (refine x4 (by kernel_rfl) (by kernel_rfl) fun K hK => ?_) | ((first | refine q6 ?_ | refine x6 ?_ | ((first | refine q4 (hK _ ?_) | refine q5 (hK _ _ (j4 (by kernel_rfl)) ?_)); clear hK K)); (first | show AWP _ _ _ _ _ | ((try simp only [j6]); first | show loopQ _ _ _ _ _ _ | show cutQ _ _ _ _ | show AWP _ _ _ _ _))) | ((first | refine q8 [5] rfl ?_ | refine z8 [5] rfl ?_); simp (maxSteps := 2000000) (disch := omega) only [go_sem, seval, hd, cb, x5, j5]; (repeat (first | refine ⟨by omega, ?_⟩ | refine ⟨True.intro, ?_⟩)))))
      refine awp_slot 2 _ (.p (.d (.sl 4 0 (rowC l)))) rfl (le_gr rfl (fun i hi => by omega)) ?_
      refine q10 ⟨_, ?_, rfl⟩; rw [Try.results32]; simp (disch := omega) only [ResVars, ResVar, ptrLoc, go_sem, seval, hd, cb, x5, j5]
  · refine z10 Try.func32 rfl (by decide +kernel) (by rw [Try.ntmps32]; simp) ?_; rw [Try.ntmps32]; simp only [frOf]
    (repeat (first | refine q0 ?_ | refine x7 rfl ?_ | refine j7 rfl ?_ | refine z6 ?_ | (refine j0 fun K hK => ?_) | (refine x4 (by kernel_rfl) (by kernel_rfl) fun K hK => ?_) | ((first | refine q6 ?_ | refine x6 ?_ | ((first | refine q4 (hK _ ?_) | refine q5 (hK _ _ (j4 (by kernel_rfl)) ?_)); clear hK K)); (first | show AWP _ _ _ _ _ | ((try simp only [j6]); first | show loopQ _ _ _ _ _ _ | show cutQ _ _ _ _ | show AWP _ _ _ _ _))) | ((first | refine q8 [5] rfl ?_ | refine z8 [5] rfl ?_); simp (maxSteps := 2000000) (disch := omega) only [go_sem, seval, hd, cb, x5, j5]; (repeat (first | refine ⟨by omega, ?_⟩ | refine ⟨True.intro, ?_⟩)))))
    refine awp_slot 2 _ (.p (.d (.sl 4 l.length (rowC l)))) rfl (le_gr (by omega) (fun i hi => by unfold catF; rw [if_neg (by omega)]; rfl)) ?_
    refine q10 ⟨_, ?_, rfl⟩; rw [Try.results32]; simp (disch := omega) only [ResVars, ResVar, ptrLoc, go_sem, seval, hd, cb, x5, j5]
end Go.Proofs.Ytemcdefpihkfpaa
set_option linter.unusedSimpArgs false
set_option linter.unusedVariables false
namespace Go.Proofs.Ytemcdefpihkfpaa
open Go.Proofs.Ytemcdefpihkfpaa.AL
theorem rowC_put (out : List Cube) (c : Cube) (i : Nat) (hlt : i < out.length + 1) : catF out.length (rowC out) (fun i => [cb c].getD i []) i = rowC (out ++ [c]) i := by
  unfold catF rowC
  by_cases h : i < out.length
  · simp only [if_pos h, List.getD_eq_getElem?_getD, List.getElem?_append_left h]
  · have : i = out.length := by omega
    subst this
    simp
theorem rowC_cat (a b : List Cube) (i : Nat) : catF a.length (rowC a) (rowC b) i = rowC (a ++ b) i := by
  unfold catF rowC
  by_cases h : i < a.length
  · simp only [if_pos h, List.getD_eq_getElem?_getD, List.getElem?_append_left h]
  · simp only [if_neg h, List.getD_eq_getElem?_getD, List.getElem?_append_right (Nat.le_of_not_lt h)]
def leanTo (l : List Cube) (i : Nat) : List Cube := (List.range i).filterMap fun n => if spareP l n then none else some (l.getD n ⟨0, 0⟩)
def leanP (l : List Cube) : List Cube := leanTo l l.length
theorem leanTo_succ (l : List Cube) (i : Nat) : leanTo l (i + 1) = leanTo l i ++ if spareP l i then [] else [l.getD i ⟨0, 0⟩] := by
  unfold leanTo
  rw [List.range_succ, List.filterMap_append]
  congr 1
  cases h : spareP l i <;> simp [h]
theorem leanTo_len (l : List Cube) (i : Nat) : (leanTo l i).length ≤ i := by
  unfold leanTo
  exact Nat.le_trans (List.length_filterMap_le _ _) (by simp)
def leanI (l : List Cube) (s : {s : Nat × List Cube // s.1 ≤ l.length ∧ s.2 = leanTo l s.1}) : ASt :=
  ⟨[(8, .p (.d (.v (.int .i64 (s.val.1 : Int))))), (7, .p (.d (.v (.int .i64 (l.length : Int))))), (6, .p (.d (.sl 4 l.length (rowC l)))), (3, .gr 3 s.val.2.length 4 s.val.2.length (rowC s.val.2)), (0, .p (.d (.sl 4 l.length (rowC l))))],
   [(3, .grow 28 4 s.val.2.length s.val.2.length)]⟩
set_option maxHeartbeats 1000000 in
theorem Lean_c (l : List Cube) (hl : l.length ≤ 1099511627776) : ACalls Try.prog 64 [.d (.sl 4 l.length (rowC l))] (· = [.d (.sl 4 (leanP l).length (rowC (leanP l)))]) := by
  refine z10 Try.func64 rfl (by decide +kernel) (by rw [Try.ntmps64]; simp) ?_; rw [Try.ntmps64]; simp only [frOf]
  (repeat (first | refine q0 ?_ | refine x7 rfl ?_ | refine j7 rfl ?_ | refine z6 ?_ | (refine j0 fun K hK => ?_) | (refine x4 (by kernel_rfl) (by kernel_rfl) fun K hK => ?_) | ((first | refine q6 ?_ | refine x6 ?_ | ((first | refine q4 (hK _ ?_) | refine q5 (hK _ _ (j4 (by kernel_rfl)) ?_)); clear hK K)); (first | show AWP _ _ _ _ _ | ((try simp only [j6]); first | show loopQ _ _ _ _ _ _ | show cutQ _ _ _ _ | show AWP _ _ _ _ _))) | ((first | refine q8 [] rfl ?_ | refine z8 [] rfl ?_); simp (maxSteps := 2000000) (disch := omega) only [go_sem, seval, hd, cb, x5, j5]; (repeat (first | refine ⟨by omega, ?_⟩ | refine ⟨True.intro, ?_⟩)))))
  refine awp_grow 3 3 4 28 (rowC []) rfl (by kernel_rfl) rfl ?_
  refine awp_loop (leanI l) (fun s => l.length - s.val.1) ⟨(0, []), by simp, by simp [leanTo]⟩ ?_ (fun s => ?_)
  · unfold leanI
    refine Weak.list ?_ ?_; (all_goals simp (disch := omega) only [AllF, AllL, j10, le_top, x10, exists_eq_left', Option.some.injEq, go_sem, seval, hd, cb, x5, j5]); (all_goals (repeat' (with_reducible apply And.intro))); (all_goals try (first | exact x8 rfl | (refine le_int ?_; omega) | (refine x8 ?_; simp; done)))
  obtain ⟨⟨i, out⟩, hi, he⟩ := s
  unfold leanI
  simp only [] at hi he
  have ho := leanTo_len l i
  rw [← he] at ho
  by_cases hn : i < l.length
  · have sp := spare_c l i (by omega) hn
    have st := leanTo_succ l i
    rw [← he] at st
    have r1 := rowC_at l i
    generalize l.getD i ⟨0, 0⟩ = K at r1 st
    cases h : spareP l i
    all_goals
      rw [h] at sp st
      simp only [Bool.false_eq_true, if_false, if_true] at st
      (repeat (first | refine q0 ?_ | refine x7 rfl ?_ | refine j7 rfl ?_ | refine z6 ?_ | (refine j0 fun K hK => ?_) | (refine x4 (by kernel_rfl) (by kernel_rfl) fun K hK => ?_) | ((first | refine q6 ?_ | refine x6 ?_ | ((first | refine q4 (hK _ ?_) | refine q5 (hK _ _ (j4 (by kernel_rfl)) ?_)); clear hK K)); (first | show AWP _ _ _ _ _ | ((try simp only [j6]); first | show loopQ _ _ _ _ _ _ | show cutQ _ _ _ _ | show AWP _ _ _ _ _))) | ((first | refine x9 rfl rfl rfl ?_ | refine j9 rfl rfl rfl ?_); simp (maxSteps := 2000000) (disch := omega) only [go_sem, seval, hd, cb, x5, j5, r1]; (first | refine ⟨_, sp, ?_⟩)) | ((first | refine q8 [] rfl ?_ | refine z8 [] rfl ?_); simp (maxSteps := 2000000) (disch := omega) only [go_sem, seval, hd, cb, x5, j5, r1]; (repeat (first | refine ⟨by omega, ?_⟩ | refine ⟨True.intro, ?_⟩)))))
    · refine ⟨⟨(i + 1, out ++ [K]), by simp only []; omega, st.symm⟩, by simp only []; omega, ?_⟩
      refine Weak.list ?_ ?_; (all_goals simp (disch := omega) only [AllF, AllL, j10, le_top, x10, exists_eq_left', Option.some.injEq, go_sem, seval, hd, cb, x5, j5, r1]); (all_goals (repeat' (with_reducible apply And.intro))); (all_goals try (first | exact x8 rfl | (refine le_int ?_; omega) | (refine x8 ?_; simp; done)))
      · exact le_grgr (by simp) (by simp) (fun j hj => rowC_put out K j hj)
      · exact lle_grow (by simp) (by simp)
    · rw [List.append_nil] at st
      refine ⟨⟨(i + 1, out), by simp only []; omega, st.symm⟩, by simp only []; omega, ?_⟩
      refine Weak.list ?_ ?_; (all_goals simp (disch := omega) only [AllF, AllL, j10, le_top, x10, exists_eq_left', Option.some.injEq, go_sem, seval, hd, cb, x5, j5, r1]); (all_goals (repeat' (with_reducible apply And.intro))); (all_goals try (first | exact x8 rfl | (refine le_int ?_; omega) | (refine x8 ?_; simp; done)))
  · have hil : i = l.length := by omega
    subst hil
    (repeat (first | refine q0 ?_ | refine x7 rfl ?_ | refine j7 rfl ?_ | refine z6 ?_ | (refine j0 fun K hK => ?_) | (refine x4 (by kernel_rfl) (by kernel_rfl) fun K hK => ?_) | ((first | refine q6 ?_ | refine x6 ?_ | ((first | refine q4 (hK _ ?_) | refine q5 (hK _ _ (j4 (by kernel_rfl)) ?_)); clear hK K)); (first | show AWP _ _ _ _ _ | ((try simp only [j6]); first | show loopQ _ _ _ _ _ _ | show cutQ _ _ _ _ | show AWP _ _ _ _ _))) | ((first | refine q8 [] rfl ?_ | refine z8 [] rfl ?_); simp (maxSteps := 2000000) (disch := omega) only [go_sem, seval, hd, cb, x5, j5]; (repeat (first | refine ⟨by omega, ?_⟩ | refine ⟨True.intro, ?_⟩)))))
    refine awp_slot 2 _ (.p (.d (.sl 4 (leanP l).length (rowC (leanP l))))) rfl ?_ ?_
    · unfold leanP
      rw [← he]
      exact le_gr rfl (fun _ _ => rfl)
    refine q10 ⟨_, ?_, rfl⟩; rw [Try.results64]; simp (disch := omega) only [ResVars, ResVar, ptrLoc, go_sem, seval, hd, cb, x5, j5]
def leanE (l : List Cube) : Int := if (leanP l).length > 200 then 10 else 0
def leanV (l : List Cube) : List Cube := if (leanP l).length > 200 then [] else leanP l
theorem lean_c (l : List Cube) (hl : l.length ≤ 1099511627776) : ACalls Try.prog 49 [.d (.sl 4 l.length (rowC l))] (· = [.d (.sl 4 (leanV l).length (rowC (leanV l))), .d (.v (.int .i64 (leanE l)))]) := by
  have le := Lean_c l hl
  have hlen : (leanP l).length ≤ l.length := leanTo_len l _
  unfold leanE leanV
  generalize leanP l = m at le hlen
  have cl := Clip_c m.length (rowC m) (by omega)
  by_cases h : m.length > 200
  · rw [if_pos h, if_pos h]
    refine z10 Try.func49 rfl (by decide +kernel) (by rw [Try.ntmps49]; simp) ?_; rw [Try.ntmps49]; simp only [frOf]
    (repeat (first | refine q0 ?_ | refine x7 rfl ?_ | refine j7 rfl ?_ | refine z6 ?_ | (refine j0 fun K hK => ?_) | (refine x4 (by kernel_rfl) (by kernel_rfl) fun K hK => ?_) | ((first | refine q6 ?_ | refine x6 ?_ | ((first | refine q4 (hK _ ?_) | refine q5 (hK _ _ (j4 (by kernel_rfl)) ?_)); clear hK K)); (first | show AWP _ _ _ _ _ | ((try simp only [j6]); first | show loopQ _ _ _ _ _ _ | show cutQ _ _ _ _ | show AWP _ _ _ _ _))) | ((first | refine x9 rfl rfl rfl ?_ | refine j9 rfl rfl rfl ?_); simp (maxSteps := 2000000) (disch := omega) only [go_sem, seval, hd, cb, x5, j5]; (first | refine ⟨_, le, ?_⟩ | refine ⟨_, cl, ?_⟩)) | ((first | refine q8 [] rfl ?_ | refine z8 [] rfl ?_); simp (maxSteps := 2000000) (disch := omega) only [go_sem, seval, hd, cb, x5, j5]; (repeat (first | refine ⟨by omega, ?_⟩ | refine ⟨True.intro, ?_⟩)))))
    refine awp_slot 2 _ (.p (.d (.sl 4 ([] : List Cube).length (rowC [])))) rfl (le_nil 4 _ _ rfl) ?_
    refine q10 ⟨_, ?_, rfl⟩; rw [Try.results49]; simp (disch := omega) only [ResVars, ResVar, ptrLoc, go_sem, seval, hd, cb, x5, j5]
  · rw [if_neg h, if_neg h]
    refine z10 Try.func49 rfl (by decide +kernel) (by rw [Try.ntmps49]; simp) ?_; rw [Try.ntmps49]; simp only [frOf]
    (repeat (first | refine q0 ?_ | refine x7 rfl ?_ | refine j7 rfl ?_ | refine z6 ?_ | (refine j0 fun K hK => ?_) | (refine x4 (by kernel_rfl) (by kernel_rfl) fun K hK => ?_) | ((first | refine q6 ?_ | refine x6 ?_ | ((first | refine q4 (hK _ ?_) | refine q5 (hK _ _ (j4 (by kernel_rfl)) ?_)); clear hK K)); (first | show AWP _ _ _ _ _ | ((try simp only [j6]); first | show loopQ _ _ _ _ _ _ | show cutQ _ _ _ _ | show AWP _ _ _ _ _))) | ((first | refine x9 rfl rfl rfl ?_ | refine j9 rfl rfl rfl ?_); simp (maxSteps := 2000000) (disch := omega) only [go_sem, seval, hd, cb, x5, j5]; (first | refine ⟨_, le, ?_⟩ | refine ⟨_, cl, ?_⟩)) | ((first | refine q8 [] rfl ?_ | refine z8 [] rfl ?_); simp (maxSteps := 2000000) (disch := omega) only [go_sem, seval, hd, cb, x5, j5]; (repeat (first | refine ⟨by omega, ?_⟩ | refine ⟨True.intro, ?_⟩)))))
    refine q10 ⟨_, ?_, rfl⟩; rw [Try.results49]; simp (disch := omega) only [ResVars, ResVar, ptrLoc, go_sem, seval, hd, cb, x5, j5]
def pairE (a b : List Cube) : Int := if soundP a && soundP b then 0 else 2
theorem pair_c (a b : List Cube) (ha : a.length ≤ 1099511627776) (hb : b.length ≤ 1099511627776) : ACalls Try.prog 48 [.d (.sl 4 a.length (rowC a)), .d (.sl 4 b.length (rowC b))] (· = [.d (.v (.int .i64 (pairE a b)))]) := by
  have s1 := SoundP_c a (by omega)
  have s2 := SoundP_c b (by omega)
  unfold pairE
  cases h1 : soundP a <;> cases h2 : soundP b
  all_goals
    rw [h1] at s1
    rw [h2] at s2
    refine z10 Try.func48 rfl (by decide +kernel) (by rw [Try.ntmps48]; simp) ?_; rw [Try.ntmps48]; simp only [frOf]
    (repeat (first | refine q0 ?_ | refine x7 rfl ?_ | refine j7 rfl ?_ | refine z6 ?_ | (refine j0 fun K hK => ?_) | (refine x4 (by kernel_rfl) (by kernel_rfl) fun K hK => ?_) | ((first | refine q6 ?_ | refine x6 ?_ | ((first | refine q4 (hK _ ?_) | refine q5 (hK _ _ (j4 (by kernel_rfl)) ?_)); clear hK K)); (first | show AWP _ _ _ _ _ | ((try simp only [j6]); first | show loopQ _ _ _ _ _ _ | show cutQ _ _ _ _ | show AWP _ _ _ _ _))) | ((first | refine x9 rfl rfl rfl ?_ | refine j9 rfl rfl rfl ?_); simp (maxSteps := 2000000) (disch := omega) only [go_sem, seval, hd, cb, x5, j5]; (first | refine ⟨_, s1, ?_⟩ | refine ⟨_, s2, ?_⟩)) | ((first | refine q8 [] rfl ?_ | refine z8 [] rfl ?_); simp (maxSteps := 2000000) (disch := omega) only [go_sem, seval, hd, cb, x5, j5]; (repeat (first | refine ⟨by omega, ?_⟩ | refine ⟨True.intro, ?_⟩)))))
    refine q10 ⟨_, ?_, rfl⟩; rw [Try.results48]; simp (disch := omega) only [ResVars, ResVar, ptrLoc, go_sem, seval, hd, cb, x5, j5]
end Go.Proofs.Ytemcdefpihkfpaa
set_option linter.unusedSimpArgs false
set_option linter.unusedVariables false
namespace Go.Proofs.Ytemcdefpihkfpaa
open Go.Proofs.Ytemcdefpihkfpaa.AL
def cbA (k : Cube) : List AV := [.p (.d (.v (.int .u64 (hi k.v)))), .p (.d (.v (.int .u64 (lo k.v)))), .p (.d (.v (.int .u64 (hi k.c)))), .p (.d (.v (.int .u64 (lo k.c))))]
def meetOne (x y : Cube) : Option Cube := if meetO x y then some (meetV x y) else none
def meetRow (b : List Cube) (x : Cube) : List Cube := b.filterMap (meetOne x)
def meetsP (a b : List Cube) : List Cube := a.flatMap (meetRow b)
def meetPI (a b : List Cube) (s : {s : Nat × List Cube // s.1 ≤ a.length ∧ s.2 = (a.take s.1).flatMap (meetRow b) ∧ s.2.length ≤ s.1 * b.length}) : ASt :=
  ⟨[(22, .p (.d (.v (.int .i64 (s.val.1 : Int))))), (21, .p (.d (.v (.int .i64 (a.length : Int))))), (20, .p (.d (.sl 4 a.length (rowC a)))), (7, .gr 7 s.val.2.length 4 s.val.2.length (rowC s.val.2)), (1, .p (.d (.sl 4 b.length (rowC b))))],
   [(7, .grow 28 4 s.val.2.length s.val.2.length)]⟩
def meetPJ (a b : List Cube) (x : Cube) (i : Nat) (pre : List Cube) (s : {s : Nat × List Cube // s.1 ≤ b.length ∧ s.2 = pre ++ (b.take s.1).filterMap (meetOne x) ∧ s.2.length ≤ pre.length + s.1}) : ASt :=
  ⟨[(28, .p (.d (.v (.int .i64 (s.val.1 : Int))))), (27, .p (.d (.v (.int .i64 (b.length : Int))))), (26, .p (.d (.sl 4 b.length (rowC b)))), (9, .loc 9 0), (22, .p (.d (.v (.int .i64 (i : Int))))), (21, .p (.d (.v (.int .i64 (a.length : Int))))), (20, .p (.d (.sl 4 a.length (rowC a)))),
    (7, .gr 7 s.val.2.length 4 s.val.2.length (rowC s.val.2)), (1, .p (.d (.sl 4 b.length (rowC b))))],
   [(9, .cells 28 (cbA x)), (7, .grow 28 4 s.val.2.length s.val.2.length)]⟩
theorem soundP_len {a : List Cube} (h : soundP a = true) : a.length ≤ 200 := by
  unfold soundP at h
  rw [Bool.and_eq_true] at h
  exact of_decide_eq_true h.1
set_option maxRecDepth 100000 in
set_option maxHeartbeats 2000000 in
theorem MeetP_c (a b : List Cube) (ha : a.length ≤ 1099511627776) (hb : b.length ≤ 1099511627776) : ACalls Try.prog 53 [.d (.sl 4 a.length (rowC a)), .d (.sl 4 b.length (rowC b))]
    (· = [.d (.sl 4 (if soundP a && soundP b then leanV (meetsP a b) else []).length (rowC (if soundP a && soundP b then leanV (meetsP a b) else []))), .d (.v (.int .i64 (if soundP a && soundP b then leanE (meetsP a b) else 2)))]) := by
  have pr := pair_c a b ha hb
  unfold pairE at pr
  cases hs : (soundP a && soundP b)
  · rw [hs] at pr
    simp only [Bool.false_eq_true, if_false] at pr ⊢
    refine z10 Try.func53 rfl (by decide +kernel) (by rw [Try.ntmps53]; simp) ?_; rw [Try.ntmps53]; simp only [frOf]
    (repeat (first | refine q0 ?_ | refine x7 rfl ?_ | refine j7 rfl ?_ | refine z6 ?_ | (refine j0 fun K hK => ?_) | (refine x4 (by kernel_rfl) (by kernel_rfl) fun K hK => ?_) | ((first | refine q6 ?_ | refine x6 ?_ | ((first | refine q4 (hK _ ?_) | refine q5 (hK _ _ (j4 (by kernel_rfl)) ?_)); clear hK K)); (first | show AWP _ _ _ _ _ | ((try simp only [j6]); first | show loopQ _ _ _ _ _ _ | show cutQ _ _ _ _ | show AWP _ _ _ _ _))) | ((first | refine x9 rfl rfl rfl ?_ | refine j9 rfl rfl rfl ?_); simp (maxSteps := 2000000) (disch := omega) only [go_sem, seval, hd, cb, x5, j5]; (first | refine ⟨_, pr, ?_⟩)) | ((first | refine q8 [] rfl ?_ | refine z8 [] rfl ?_); simp (maxSteps := 2000000) (disch := omega) only [go_sem, seval, hd, cb, x5, j5]; (repeat (first | refine ⟨by omega, ?_⟩ | refine ⟨True.intro, ?_⟩)))))
    refine awp_slot 4 _ (.p (.d (.sl 4 ([] : List Cube).length (rowC [])))) rfl (le_nil 4 _ _ rfl) ?_
    refine q10 ⟨_, ?_, rfl⟩; rw [Try.results53]; simp (disch := omega) only [ResVars, ResVar, ptrLoc, go_sem, seval, hd, cb, x5, j5]
  · rw [hs] at pr
    simp only [if_true] at pr ⊢
    rw [Bool.and_eq_true] at hs
    have h1 := soundP_len hs.1
    have h2 := soundP_len hs.2
    refine z10 Try.func53 rfl (by decide +kernel) (by rw [Try.ntmps53]; simp) ?_; rw [Try.ntmps53]; simp only [frOf]
    (repeat (first | refine q0 ?_ | refine x7 rfl ?_ | refine j7 rfl ?_ | refine z6 ?_ | (refine j0 fun K hK => ?_) | (refine x4 (by kernel_rfl) (by kernel_rfl) fun K hK => ?_) | ((first | refine q6 ?_ | refine x6 ?_ | ((first | refine q4 (hK _ ?_) | refine q5 (hK _ _ (j4 (by kernel_rfl)) ?_)); clear hK K)); (first | show AWP _ _ _ _ _ | ((try simp only [j6]); first | show loopQ _ _ _ _ _ _ | show cutQ _ _ _ _ | show AWP _ _ _ _ _))) | ((first | refine x9 rfl rfl rfl ?_ | refine j9 rfl rfl rfl ?_); simp (maxSteps := 2000000) (disch := omega) only [go_sem, seval, hd, cb, x5, j5]; (first | refine ⟨_, pr, ?_⟩)) | ((first | refine q8 [] rfl ?_ | refine z8 [] rfl ?_); simp (maxSteps := 2000000) (disch := omega) only [go_sem, seval, hd, cb, x5, j5]; (repeat (first | refine ⟨by omega, ?_⟩ | refine ⟨True.intro, ?_⟩)))))
    refine awp_grow 7 7 4 28 (rowC []) rfl (by kernel_rfl) rfl ?_
    refine awp_loop (meetPI a b) (fun s => a.length - s.val.1) ⟨(0, []), by simp, by simp, by simp⟩ ?_ (fun s => ?_)
    · unfold meetPI
      refine Weak.list ?_ ?_; (all_goals simp (disch := omega) only [AllF, AllL, j10, le_top, x10, exists_eq_left', Option.some.injEq, go_sem, seval, hd, cb, x5, j5]); (all_goals (repeat' (with_reducible apply And.intro))); (all_goals try (first | exact x8 rfl | (refine le_int ?_; omega) | (refine x8 ?_; simp; done)))
    obtain ⟨⟨i, out⟩, hi, he, ho⟩ := s
    unfold meetPI
    simp only [] at hi he ho
    have hio : i * b.length ≤ 200 * 200 := Nat.mul_le_mul (by omega) h2
    by_cases hn : i < a.length
    · have r1 := rowC_at a i
      have st := take_succ_getD a i ⟨0, 0⟩ hn
      generalize a.getD i ⟨0, 0⟩ = X at r1 st
      (repeat (first | refine q0 ?_ | refine x7 rfl ?_ | refine j7 rfl ?_ | refine z6 ?_ | (refine j0 fun K hK => ?_) | (refine x4 (by kernel_rfl) (by kernel_rfl) fun K hK => ?_) | ((first | refine q6 ?_ | refine x6 ?_ | ((first | refine q4 (hK _ ?_) | refine q5 (hK _ _ (j4 (by kernel_rfl)) ?_)); clear hK K)); (first | show AWP _ _ _ _ _ | ((try simp only [j6]); first | show loopQ _ _ _ _ _ _ | show cutQ _ _ _ _ | show AWP _ _ _ _ _))) | ((first | refine q8 [] rfl ?_ | refine z8 [] rfl ?_); simp (maxSteps := 2000000) (disch := omega) only [go_sem, seval, hd, cb, x5, j5, r1]; (repeat (first | refine ⟨by omega, ?_⟩ | refine ⟨True.intro, ?_⟩)))))
      refine awp_loop (meetPJ a b X i out) (fun s => b.length - s.val.1) ⟨(0, out), by simp, by simp, by simp⟩ ?_ (fun s => ?_)
      · unfold meetPJ cbA
        refine Weak.list ?_ ?_; (all_goals simp (disch := omega) only [AllF, AllL, j10, le_top, x10, exists_eq_left', Option.some.injEq, go_sem, seval, hd, cb, x5, j5, r1]); (all_goals (repeat' (with_reducible apply And.intro))); (all_goals try (first | exact x8 rfl | (refine le_int ?_; omega) | (refine x8 ?_; simp; done)))
      obtain ⟨⟨j, ou2⟩, hj, he2, ho2⟩ := s
      unfold meetPJ cbA
      simp only [] at hj he2 ho2
      by_cases hm : j < b.length
      · have r2 := rowC_at b j
        have st2 := take_succ_getD b j ⟨0, 0⟩ hm
        generalize b.getD j ⟨0, 0⟩ = Y at r2 st2
        have mt := Meet_c X Y
        have so : (b.take (j + 1)).filterMap (meetOne X) = (b.take j).filterMap (meetOne X) ++ (if meetO X Y then [meetV X Y] else []) := by
          rw [st2, List.filterMap_append]
          congr 1
          cases h : meetO X Y <;> simp [meetOne, h]
        generalize meetV X Y = V at mt so
        cases h : meetO X Y
        all_goals
          rw [h] at mt so
          simp only [Bool.false_eq_true, if_false, if_true] at so
          (repeat (first | refine q0 ?_ | refine x7 rfl ?_ | refine j7 rfl ?_ | refine z6 ?_ | (refine j0 fun K hK => ?_) | (refine x4 (by kernel_rfl) (by kernel_rfl) fun K hK => ?_) | ((first | refine q6 ?_ | refine x6 ?_ | ((first | refine q4 (hK _ ?_) | refine q5 (hK _ _ (j4 (by kernel_rfl)) ?_)); clear hK K)); (first | show AWP _ _ _ _ _ | ((try simp only [j6]); first | show loopQ _ _ _ _ _ _ | show cutQ _ _ _ _ | show AWP _ _ _ _ _))) | ((first | refine x9 rfl rfl rfl ?_ | refine j9 rfl rfl rfl ?_); simp (maxSteps := 2000000) (disch := omega) only [go_sem, seval, hd, cb, x5, j5, r1, r2]; (first | refine ⟨_, mt, ?_⟩)) | ((first | refine q8 [] rfl ?_ | refine z8 [] rfl ?_); simp (maxSteps := 2000000) (disch := omega) only [go_sem, seval, hd, cb, x5, j5, r1, r2]; (repeat (first | refine ⟨by omega, ?_⟩ | refine ⟨True.intro, ?_⟩)))))
        · refine ⟨⟨(j + 1, ou2), by simp only []; omega, by rw [so, List.append_nil]; exact he2, by simp only []; omega⟩, by simp only []; omega, ?_⟩
          refine Weak.list ?_ ?_; (all_goals simp (disch := omega) only [AllF, AllL, j10, le_top, x10, exists_eq_left', Option.some.injEq, go_sem, seval, hd, cb, x5, j5, r1, r2]); (all_goals (repeat' (with_reducible apply And.intro))); (all_goals try (first | exact x8 rfl | (refine le_int ?_; omega) | (refine x8 ?_; simp; done)))
        · refine ⟨⟨(j + 1, ou2 ++ [V]), by simp only []; omega, by rw [so, ← List.append_assoc, ← he2], by simp; omega⟩, by simp only []; omega, ?_⟩
          refine Weak.list ?_ ?_; (all_goals simp (disch := omega) only [AllF, AllL, j10, le_top, x10, exists_eq_left', Option.some.injEq, go_sem, seval, hd, cb, x5, j5, r1, r2]); (all_goals (repeat' (with_reducible apply And.intro))); (all_goals try (first | exact x8 rfl | (refine le_int ?_; omega) | (refine x8 ?_; simp; done)))
          · exact le_grgr (by simp) (by simp) (fun j hj => rowC_put ou2 V j hj)
          · exact lle_grow (by simp) (by simp)
      · have hjl : j = b.length := by omega
        subst hjl
        (repeat (first | refine q0 ?_ | refine x7 rfl ?_ | refine j7 rfl ?_ | refine z6 ?_ | (refine j0 fun K hK => ?_) | (refine x4 (by kernel_rfl) (by kernel_rfl) fun K hK => ?_) | ((first | refine q6 ?_ | refine x6 ?_ | ((first | refine q4 (hK _ ?_) | refine q5 (hK _ _ (j4 (by kernel_rfl)) ?_)); clear hK K)); (first | show AWP _ _ _ _ _ | ((try simp only [j6]); first | show loopQ _ _ _ _ _ _ | show cutQ _ _ _ _ | show AWP _ _ _ _ _))) | ((first | refine q8 [] rfl ?_ | refine z8 [] rfl ?_); simp (maxSteps := 2000000) (disch := omega) only [go_sem, seval, hd, cb, x5, j5, r1]; (repeat (first | refine ⟨by omega, ?_⟩ | refine ⟨True.intro, ?_⟩)))))
        refine ⟨⟨(i + 1, ou2), by simp only []; omega, ?_, ?_⟩, by simp only []; omega, ?_⟩
        · rw [st, List.flatMap_append, ← he, he2, List.take_length]
          simp [meetRow]
        · simp only []
          rw [Nat.add_mul, Nat.one_mul]; omega
        refine Weak.list ?_ ?_; (all_goals simp (disch := omega) only [AllF, AllL, j10, le_top, x10, exists_eq_left', Option.some.injEq, go_sem, seval, hd, cb, x5, j5, r1]); (all_goals (repeat' (with_reducible apply And.intro))); (all_goals try (first | exact x8 rfl | (refine le_int ?_; omega) | (refine x8 ?_; simp; done)))
    · have hil : i = a.length := by omega
      subst hil
      rw [List.take_length] at he
      have ln := lean_c out (by omega)
      have : out = meetsP a b := he
      rw [← this]
      (repeat (first | refine q0 ?_ | refine x7 rfl ?_ | refine j7 rfl ?_ | refine z6 ?_ | (refine j0 fun K hK => ?_) | (refine x4 (by kernel_rfl) (by kernel_rfl) fun K hK => ?_) | ((first | refine q6 ?_ | refine x6 ?_ | ((first | refine q4 (hK _ ?_) | refine q5 (hK _ _ (j4 (by kernel_rfl)) ?_)); clear hK K)); (first | show AWP _ _ _ _ _ | ((try simp only [j6]); first | show loopQ _ _ _ _ _ _ | show cutQ _ _ _ _ | show AWP _ _ _ _ _))) | ((first | refine x9 rfl rfl rfl ?_ | refine j9 rfl rfl rfl ?_); simp (maxSteps := 2000000) (disch := omega) only [go_sem, seval, hd, cb, x5, j5]; (first | refine ⟨_, ln, ?_⟩)) | ((first | refine q8 [] rfl ?_ | refine z8 [] rfl ?_); simp (maxSteps := 2000000) (disch := omega) only [go_sem, seval, hd, cb, x5, j5]; (repeat (first | refine ⟨by omega, ?_⟩ | refine ⟨True.intro, ?_⟩)))))
      refine q10 ⟨_, ?_, rfl⟩; rw [Try.results53]; simp (disch := omega) only [ResVars, ResVar, ptrLoc, go_sem, seval, hd, cb, x5, j5]
def lessRest (out : List Cube) (y : Cube) : List Cube := out.flatMap fun x => lessL x y
def lessP : List Cube → List Cube → List Cube × Int
  | [], out => (out, 0)
  | y :: r, out => if leanE (lessRest out y) = 0 then lessP r (leanV (lessRest out y)) else ([], leanE (lessRest out y))
theorem leanV_len (l : List Cube) : (leanV l).length ≤ 200 := by
  unfold leanV
  split
  · simp
  · omega
def lessPI (b : List Cube) (R : List Cube × Int) (s : {s : Nat × List Cube // s.1 ≤ b.length ∧ lessP (b.drop s.1) s.2 = R ∧ s.2.length ≤ 200}) : ASt :=
  ⟨[(24, .p (.d (.v (.int .i64 (s.val.1 : Int))))), (23, .p (.d (.v (.int .i64 (b.length : Int))))), (22, .p (.d (.sl 4 b.length (rowC b)))), (7, .p (.d (.sl 4 s.val.2.length (rowC s.val.2))))], []⟩
def lessPJ (b out : List Cube) (y : Cube) (i : Nat) (s : {s : Nat × List Cube // s.1 ≤ out.length ∧ s.2 = (out.take s.1).flatMap (fun x => lessL x y) ∧ s.2.length ≤ s.1 * 128}) : ASt :=
  ⟨[(30, .p (.d (.v (.int .i64 (s.val.1 : Int))))), (29, .p (.d (.v (.int .i64 (out.length : Int))))), (28, .p (.d (.sl 4 out.length (rowC out)))), (9, .loc 9 0), (10, .gr 10 s.val.1 4 s.val.2.length (rowC s.val.2)),
    (24, .p (.d (.v (.int .i64 (i : Int))))), (23, .p (.d (.v (.int .i64 (b.length : Int))))), (22, .p (.d (.sl 4 b.length (rowC b))))],
   [(9, .cells 28 (cbA y)), (10, .grow 28 4 s.val.2.length s.val.1)]⟩
theorem lessL_len' (a b : Cube) : (lessL a b).length ≤ 128 := by
  have go : ∀ (more : BitVec 128) (n : Nat) (r : Cube), (lessGo b more n r).length ≤ n := by
    intro more n
    induction n with
    | zero => intro r; simp [lessGo]
    | succ n ih =>
      intro r
      unfold lessGo
      split
      · have := ih ⟨r.v ||| b.v &&& ones 1 <<< n, r.c ||| ones 1 <<< n⟩; simp; omega
      · have := ih r; omega
  unfold lessL
  split
  · split
    · exact go _ _ _
    · simp
  · simp
set_option maxRecDepth 100000 in
set_option maxHeartbeats 2000000 in
theorem LessP_c' (a b : List Cube) (ha : a.length ≤ 1099511627776) (hb : b.length ≤ 1099511627776) (R : List Cube × Int) (hR : (if soundP a && soundP b then lessP b a else ([], 2)) = R) : ACalls Try.prog 56 [.d (.sl 4 a.length (rowC a)), .d (.sl 4 b.length (rowC b))]
    (· = [.d (.sl 4 R.1.length (rowC R.1)), .d (.v (.int .i64 R.2))]) := by
  have pr := pair_c a b ha hb
  unfold pairE at pr
  cases hs : (soundP a && soundP b)
  · rw [hs] at pr hR
    simp only [Bool.false_eq_true, if_false] at pr hR
    subst hR
    refine z10 Try.func56 rfl (by decide +kernel) (by rw [Try.ntmps56]; simp) ?_; rw [Try.ntmps56]; simp only [frOf]
    (repeat (first | refine q0 ?_ | refine x7 rfl ?_ | refine j7 rfl ?_ | refine z6 ?_ | (refine j0 fun K hK => ?_) | (refine x4 (by kernel_rfl) (by kernel_rfl) fun K hK => ?_) | ((first | refine q6 ?_ | refine x6 ?_ | ((first | refine q4 (hK _ ?_) | refine q5 (hK _ _ (j4 (by kernel_rfl)) ?_)); clear hK K)); (first | show AWP _ _ _ _ _ | ((try simp only [j6]); first | show loopQ _ _ _ _ _ _ | show cutQ _ _ _ _ | show AWP _ _ _ _ _))) | ((first | refine x9 rfl rfl rfl ?_ | refine j9 rfl rfl rfl ?_); simp (maxSteps := 2000000) (disch := omega) only [go_sem, seval, hd, cb, x5, j5]; (first | refine ⟨_, pr, ?_⟩)) | ((first | refine q8 [] rfl ?_ | refine z8 [] rfl ?_); simp (maxSteps := 2000000) (disch := omega) only [go_sem, seval, hd, cb, x5, j5]; (repeat (first | refine ⟨by omega, ?_⟩ | refine ⟨True.intro, ?_⟩)))))
    refine awp_slot 4 _ (.p (.d (.sl 4 ([] : List Cube).length (rowC [])))) rfl (le_nil 4 _ _ rfl) ?_
    refine q10 ⟨_, ?_, rfl⟩; rw [Try.results56]; simp (disch := omega) only [ResVars, ResVar, ptrLoc, go_sem, seval, hd, cb, x5, j5]
  · rw [hs] at pr hR
    simp only [if_true] at pr hR
    rw [Bool.and_eq_true] at hs
    have h1 := soundP_len hs.1
    have h2 := soundP_len hs.2
    have cl := Clone_c a ha
    refine z10 Try.func56 rfl (by decide +kernel) (by rw [Try.ntmps56]; simp) ?_; rw [Try.ntmps56]; simp only [frOf]
    (repeat (first | refine q0 ?_ | refine x7 rfl ?_ | refine j7 rfl ?_ | refine z6 ?_ | (refine j0 fun K hK => ?_) | (refine x4 (by kernel_rfl) (by kernel_rfl) fun K hK => ?_) | ((first | refine q6 ?_ | refine x6 ?_ | ((first | refine q4 (hK _ ?_) | refine q5 (hK _ _ (j4 (by kernel_rfl)) ?_)); clear hK K)); (first | show AWP _ _ _ _ _ | ((try simp only [j6]); first | show loopQ _ _ _ _ _ _ | show cutQ _ _ _ _ | show AWP _ _ _ _ _))) | ((first | refine x9 rfl rfl rfl ?_ | refine j9 rfl rfl rfl ?_); simp (maxSteps := 2000000) (disch := omega) only [go_sem, seval, hd, cb, x5, j5]; (first | refine ⟨_, pr, ?_⟩ | refine ⟨_, cl, ?_⟩)) | ((first | refine q8 [] rfl ?_ | refine z8 [] rfl ?_); simp (maxSteps := 2000000) (disch := omega) only [go_sem, seval, hd, cb, x5, j5]; (repeat (first | refine ⟨by omega, ?_⟩ | refine ⟨True.intro, ?_⟩)))))
    refine awp_loop (lessPI b R) (fun s => b.length - s.val.1) ⟨(0, a), by simp, by rw [List.drop_zero]; exact hR, h1⟩ ?_ (fun s => ?_)
    · unfold lessPI
      refine Weak.list ?_ ?_; (all_goals simp (disch := omega) only [AllF, AllL, j10, le_top, x10, exists_eq_left', Option.some.injEq, go_sem, seval, hd, cb, x5, j5]); (all_goals (repeat' (with_reducible apply And.intro))); (all_goals try (first | exact x8 rfl | (refine le_int ?_; omega) | (refine x8 ?_; simp; done)))
    obtain ⟨⟨i, out⟩, hi, he, ho⟩ := s
    unfold lessPI
    simp only [] at hi he ho
    by_cases hn : i < b.length
    · have r1 := rowC_at b i
      rw [drop_getD b i ⟨0, 0⟩ hn] at he
      generalize b.getD i ⟨0, 0⟩ = Y at r1 he
      (repeat ((fail_if_success (show AWP _ _ (.region 9 _ _) _ _)); first | refine q0 ?_ | refine x7 rfl ?_ | refine j7 rfl ?_ | refine z6 ?_ | (refine j0 fun K hK => ?_) | (refine x4 (by kernel_rfl) (by kernel_rfl) fun K hK => ?_) | ((first | refine q6 ?_ | refine x6 ?_ | ((first | refine q4 (hK _ ?_) | refine q5 (hK _ _ (j4 (by kernel_rfl)) ?_)); clear hK K)); (first | show AWP _ _ _ _ _ | ((try simp only [j6]); first | show loopQ _ _ _ _ _ _ | show cutQ _ _ _ _ | show AWP _ _ _ _ _))) | ((first | refine q8 [] rfl ?_ | refine z8 [] rfl ?_); simp (maxSteps := 2000000) (disch := omega) only [go_sem, seval, hd, cb, x5, j5, r1]; (repeat (first | refine ⟨by omega, ?_⟩ | refine ⟨True.intro, ?_⟩)))))
      refine awp_grow 10 10 4 28 (rowC []) rfl (by kernel_rfl) rfl ?_
      (repeat (first | refine q0 ?_ | refine x7 rfl ?_ | refine j7 rfl ?_ | refine z6 ?_ | (refine j0 fun K hK => ?_) | (refine x4 (by kernel_rfl) (by kernel_rfl) fun K hK => ?_) | ((first | refine q6 ?_ | refine x6 ?_ | ((first | refine q4 (hK _ ?_) | refine q5 (hK _ _ (j4 (by kernel_rfl)) ?_)); clear hK K)); (first | show AWP _ _ _ _ _ | ((try simp only [j6]); first | show loopQ _ _ _ _ _ _ | show cutQ _ _ _ _ | show AWP _ _ _ _ _))) | ((first | refine q8 [] rfl ?_ | refine z8 [] rfl ?_); simp (maxSteps := 2000000) (disch := omega) only [go_sem, seval, hd, cb, x5, j5, r1]; (repeat (first | refine ⟨by omega, ?_⟩ | refine ⟨True.intro, ?_⟩)))))
      refine awp_loop (lessPJ b out Y i) (fun s => out.length - s.val.1) ⟨(0, []), by simp, by simp, by simp⟩ ?_ (fun s => ?_)
      · unfold lessPJ cbA
        refine Weak.list ?_ ?_; (all_goals simp (disch := omega) only [AllF, AllL, j10, le_top, x10, exists_eq_left', Option.some.injEq, go_sem, seval, hd, cb, x5, j5, r1]); (all_goals (repeat' (with_reducible apply And.intro))); (all_goals try (first | exact x8 rfl | (refine le_int ?_; omega) | (refine x8 ?_; simp; done)))
      obtain ⟨⟨j, rest⟩, hj, he2, ho2⟩ := s
      unfold lessPJ cbA
      simp only [] at hj he2 ho2
      by_cases hm : j < out.length
      · have r2 := rowC_at out j
        have st2 := take_succ_getD out j ⟨0, 0⟩ hm
        generalize out.getD j ⟨0, 0⟩ = X at r2 st2
        have ls := Less_cube_c X Y
        have ll := lessL_len' X Y
        have so : (out.take (j + 1)).flatMap (fun x => lessL x Y) = (out.take j).flatMap (fun x => lessL x Y) ++ lessL X Y := by
          rw [st2, List.flatMap_append]; simp
        generalize lessL X Y = M at ls ll so
        (repeat (first | refine q0 ?_ | refine x7 rfl ?_ | refine j7 rfl ?_ | refine z6 ?_ | (refine j0 fun K hK => ?_) | (refine x4 (by kernel_rfl) (by kernel_rfl) fun K hK => ?_) | ((first | refine q6 ?_ | refine x6 ?_ | ((first | refine q4 (hK _ ?_) | refine q5 (hK _ _ (j4 (by kernel_rfl)) ?_)); clear hK K)); (first | show AWP _ _ _ _ _ | ((try simp only [j6]); first | show loopQ _ _ _ _ _ _ | show cutQ _ _ _ _ | show AWP _ _ _ _ _))) | ((first | refine x9 rfl rfl rfl ?_ | refine j9 rfl rfl rfl ?_); simp (maxSteps := 2000000) (disch := omega) only [go_sem, seval, hd, cb, x5, j5, r1, r2]; (first | refine ⟨_, ls, ?_⟩)) | ((first | refine q8 [] rfl ?_ | refine z8 [] rfl ?_); simp (maxSteps := 2000000) (disch := omega) only [go_sem, seval, hd, cb, x5, j5, r1, r2]; (repeat (first | refine ⟨by omega, ?_⟩ | refine ⟨True.intro, ?_⟩)))))
        refine ⟨⟨(j + 1, rest ++ M), by simp only []; omega, by rw [so, ← he2], by simp; omega⟩, by simp only []; omega, ?_⟩
        refine Weak.list ?_ ?_; (all_goals simp (disch := omega) only [AllF, AllL, j10, le_top, x10, exists_eq_left', Option.some.injEq, go_sem, seval, hd, cb, x5, j5, r1, r2]); (all_goals (repeat' (with_reducible apply And.intro))); (all_goals try (first | exact x8 rfl | (refine le_int ?_; omega) | (refine x8 ?_; simp; done)))
        · exact le_grgr rfl (by simp) (fun k hk => rowC_cat rest M k)
        · exact lle_grow (by simp) rfl
      · have hjl : j = out.length := by omega
        subst hjl
        rw [List.take_length] at he2
        have hre : rest = lessRest out Y := he2
        have ln := lean_c rest (by omega)
        unfold lessP at he
        rw [← hre] at he
        have hv := leanV_len rest
        generalize leanV rest = V at ln he hv
        by_cases h0 : leanE rest = 0
        · rw [if_pos h0] at he
          rw [h0] at ln
          (repeat (first | refine q0 ?_ | refine x7 rfl ?_ | refine j7 rfl ?_ | refine z6 ?_ | (refine j0 fun K hK => ?_) | (refine x4 (by kernel_rfl) (by kernel_rfl) fun K hK => ?_) | ((first | refine q6 ?_ | refine x6 ?_ | ((first | refine q4 (hK _ ?_) | refine q5 (hK _ _ (j4 (by kernel_rfl)) ?_)); clear hK K)); (first | show AWP _ _ _ _ _ | ((try simp only [j6]); first | show loopQ _ _ _ _ _ _ | show cutQ _ _ _ _ | show AWP _ _ _ _ _))) | ((first | refine x9 rfl rfl rfl ?_ | refine j9 rfl rfl rfl ?_); simp (maxSteps := 2000000) (disch := omega) only [go_sem, seval, hd, cb, x5, j5, r1]; (first | refine ⟨_, ln, ?_⟩)) | ((first | refine q8 [] rfl ?_ | refine z8 [] rfl ?_); simp (maxSteps := 2000000) (disch := omega) only [go_sem, seval, hd, cb, x5, j5, r1]; (repeat (first | refine ⟨by omega, ?_⟩ | refine ⟨True.intro, ?_⟩)))))
          refine ⟨⟨(i + 1, V), by simp only []; omega, he, hv⟩, by simp only []; omega, ?_⟩
          refine Weak.list ?_ ?_; (all_goals simp (disch := omega) only [AllF, AllL, j10, le_top, x10, exists_eq_left', Option.some.injEq, go_sem, seval, hd, cb, x5, j5, r1]); (all_goals (repeat' (with_reducible apply And.intro))); (all_goals try (first | exact x8 rfl | (refine le_int ?_; omega) | (refine x8 ?_; simp; done)))
        · rw [if_neg h0] at he
          have h10 : leanE rest = 10 := by unfold leanE at h0 ⊢; split <;> simp_all
          rw [h10] at ln he
          subst he
          (repeat (first | refine q0 ?_ | refine x7 rfl ?_ | refine j7 rfl ?_ | refine z6 ?_ | (refine j0 fun K hK => ?_) | (refine x4 (by kernel_rfl) (by kernel_rfl) fun K hK => ?_) | ((first | refine q6 ?_ | refine x6 ?_ | ((first | refine q4 (hK _ ?_) | refine q5 (hK _ _ (j4 (by kernel_rfl)) ?_)); clear hK K)); (first | show AWP _ _ _ _ _ | ((try simp only [j6]); first | show loopQ _ _ _ _ _ _ | show cutQ _ _ _ _ | show AWP _ _ _ _ _))) | ((first | refine x9 rfl rfl rfl ?_ | refine j9 rfl rfl rfl ?_); simp (maxSteps := 2000000) (disch := omega) only [go_sem, seval, hd, cb, x5, j5, r1]; (first | refine ⟨_, ln, ?_⟩)) | ((first | refine q8 [] rfl ?_ | refine z8 [] rfl ?_); simp (maxSteps := 2000000) (disch := omega) only [go_sem, seval, hd, cb, x5, j5, r1]; (repeat (first | refine ⟨by omega, ?_⟩ | refine ⟨True.intro, ?_⟩)))))
          refine awp_slot 4 _ (.p (.d (.sl 4 ([] : List Cube).length (rowC [])))) rfl (le_nil 4 _ _ rfl) ?_
          refine q10 ⟨_, ?_, rfl⟩; rw [Try.results56]; simp (disch := omega) only [ResVars, ResVar, ptrLoc, go_sem, seval, hd, cb, x5, j5, r1]
    · have hil : i = b.length := by omega
      subst hil
      rw [List.drop_length] at he
      unfold lessP at he
      subst he
      have cp := Clip_c out.length (rowC out) (by omega)
      (repeat (first | refine q0 ?_ | refine x7 rfl ?_ | refine j7 rfl ?_ | refine z6 ?_ | (refine j0 fun K hK => ?_) | (refine x4 (by kernel_rfl) (by kernel_rfl) fun K hK => ?_) | ((first | refine q6 ?_ | refine x6 ?_ | ((first | refine q4 (hK _ ?_) | refine q5 (hK _ _ (j4 (by kernel_rfl)) ?_)); clear hK K)); (first | show AWP _ _ _ _ _ | ((try simp only [j6]); first | show loopQ _ _ _ _ _ _ | show cutQ _ _ _ _ | show AWP _ _ _ _ _))) | ((first | refine x9 rfl rfl rfl ?_ | refine j9 rfl rfl rfl ?_); simp (maxSteps := 2000000) (disch := omega) only [go_sem, seval, hd, cb, x5, j5]; (first | refine ⟨_, cp, ?_⟩)) | ((first | refine q8 [] rfl ?_ | refine z8 [] rfl ?_); simp (maxSteps := 2000000) (disch := omega) only [go_sem, seval, hd, cb, x5, j5]; (repeat (first | refine ⟨by omega, ?_⟩ | refine ⟨True.intro, ?_⟩)))))
      refine q10 ⟨_, ?_, rfl⟩; rw [Try.results56]; simp (disch := omega) only [ResVars, ResVar, ptrLoc, go_sem, seval, hd, cb, x5, j5]
def lessPR (a b : List Cube) : List Cube × Int := if soundP a && soundP b then lessP b a else ([], 2)
theorem LessP_c (a b : List Cube) (ha : a.length ≤ 1099511627776) (hb : b.length ≤ 1099511627776) : ACalls Try.prog 56 [.d (.sl 4 a.length (rowC a)), .d (.sl 4 b.length (rowC b))]
    (· = [.d (.sl 4 (lessPR a b).1.length (rowC (lessPR a b).1)), .d (.v (.int .i64 (lessPR a b).2))]) := LessP_c' a b ha hb _ rfl
theorem lessP_err : ∀ (b a : List Cube), (lessP b a).2 = 0 ∨ (lessP b a).2 = 10 ∧ (lessP b a).1 = []
  | [], a => .inl rfl
  | y :: r, a => by
    unfold lessP
    split
    · exact lessP_err r _
    · rename_i h
      refine .inr ⟨?_, rfl⟩
      unfold leanE at h ⊢
      simp only []
      split <;> simp_all
end Go.Proofs.Ytemcdefpihkfpaa
set_option linter.unusedSimpArgs false
set_option linter.unusedVariables false
namespace Go.Proofs.Ytemcdefpihkfpaa
open Go.Proofs.Ytemcdefpihkfpaa.AL Go.RowKit
def growRen : Go.Shelf.Ren := ⟨fun | 4 => 65 | n => n, fun | 0 => 0 | 3 => 3 | 4 => 4 | 9 => 9 | 20 => 20 | 22 => 22 | 25 => 28 | n => n, fun n => n⟩
theorem growL : Go.Proofs.Lays8.n4 Try.prog growRen where
  mixed := by kernel_rfl
  f4 := ⟨Try.f65.name, by kernel_rfl, Try.func65.trans (congrArg some (by kernel_rfl))⟩
  t0 := Try.underlying0
  a0 := Try.isAgg0
  z0 := Try.sizeOf0
  v0 := Try.zeroValue0
  t3 := Try.underlying3
  a3 := Try.isAgg3
  z3 := Try.sizeOf3
  v3 := Try.zeroValue3
  t4 := Try.underlying4
  a4 := Try.isAgg4
  z4 := Try.sizeOf4
  v4 := Try.zeroValue4
  t9 := Try.underlying9
  a9 := Try.isAgg9
  z9 := Try.sizeOf9
  v9 := Try.zeroValue9
  t20 := Try.underlying20
  a20 := Try.isAgg20
  z20 := Try.sizeOf20
  v20 := Try.zeroValue20
  t22 := Try.underlying22
  a22 := Try.isAgg22
  z22 := Try.sizeOf22
  v22 := Try.zeroValue22
theorem Grow0_c : ACalls Try.prog 65 [.d (.v (.slice none 0 0)), .d (.v (.int .i64 0))] (· = [.d (.v (.slice none 0 0))]) := by
  refine acalls_iff.2 fun w g vs hz hr => ?_
  have hv : vs = [.slice none 0 0, .int .i64 0] := relPs_vals [.slice none 0 0, .int .i64 0] vs hr
  subst hv
  rw [callFunc_enter _ w Try.func65 rfl (by kernel_rfl)]
  show Calls Try.prog 65 _ w _
  refine Calls.mono (Go.Proofs.Any8.slices_Grow_room growL none 0 0 0 w (Nat.le_refl _) (by omega) (by omega) (by omega)) fun e w' ⟨he, hw⟩ => ?_
  subst hw
  exact ⟨_, he, g, _, Ext.refl hz, rfl, .d _ _ (.v _ rfl)⟩
theorem Grow_c (n : Nat) (h0 : 0 < n) (hn : n ≤ 1099511627776) : MCalls Try.prog 65 [.p (.d (.v (.slice none 0 0))), .p (.d (.v (.int .i64 (n : Int))))] []
    (fun rs L' => rs = [.gr 1000 0 4 0 (rowC [])] ∧ L' = [(1000, .grow 28 4 0 0)]) := by
  intro w h vs hz hr hl
  have hv : vs = [.slice none 0 0, .int .i64 (n : Int)] := by
    match vs, hr with
    | [a, b], hr =>
      rw [relA_v (hr.2 0 a _ rfl rfl), relA_v (hr.2 1 b _ rfl rfl)]
    | [], hr => simp [RelAs] at hr
    | [_], hr => simp [RelAs] at hr
    | _ :: _ :: _ :: _, hr => simp [RelAs] at hr
  subst hv
  rw [callFunc_enter _ w Try.func65 rfl (by kernel_rfl)]
  show Calls Try.prog 65 _ w _
  obtain ⟨i0, hi0⟩ : ∃ i, Try.prog.info? 28 = some i := Option.isSome_iff_exists.1 (by kernel_rfl)
  have hs : i0.size = 4 := by
    have : (Try.prog.info? 28).map (fun i => i.size) = some 4 := by kernel_rfl
    rw [hi0] at this; simpa using this
  have hb : i0.bytes = 32 := by
    have : (Try.prog.info? 28).map (fun i => i.bytes) = some 32 := by kernel_rfl
    rw [hi0] at this; simpa using this
  obtain ⟨z, hz0⟩ : ∃ z, i0.zero = some z := by
    have : ((Try.prog.info? 28).bind (fun i => i.zero)).isSome = true := by kernel_rfl
    rw [hi0] at this
    exact Option.isSome_iff_exists.1 this
  have hzs : z.cells.size = 4 := by
    have : ((Try.prog.info? 28).bind (fun i => i.zero)).map (fun z => z.cells.size) = some 4 := by kernel_rfl
    rw [hi0] at this
    simp only [Option.bind_some, hz0, Option.map_some, Option.some.injEq] at this
    exact this
  refine Calls.mono (Go.Proofs.Any8.slices_Grow_grow growL i0 z hi0 hz0 (by omega) none 0 0 n [] w (Nat.le_refl _) (by omega) (by rw [hb]; omega) (by omega) (by simp) (fun _ => rfl) (fun a ha => by cases ha)) fun e w' ⟨he, hw⟩ => ?_
  have hge := grownCap_ge w (0 + n) 0 (growRen.t 25)
  have hcm := grownCap_le_maxLen w (0 + n) 0 (growRen.t 25) (by unfold maxLen; omega)
  generalize grownCap w (0 + n) 0 (growRen.t 25) = cap at he hw hge hcm
  subst he
  subst hw
  generalize hcur : (([] : List Value).toArray ++ Builtin.zeroCells z.cells (0 + n - 0) ++ Builtin.zeroCells z.cells (cap - (0 + n)) : Array Value) = cur
  have hcs : cur.size = cap * 4 := by
    rw [← hcur]
    simp only [Array.size_append, size_zeroCells, hzs]
    simp; omega
  let v : Value := .slice (some ⟨w.heap.size, 0, none⟩) 0 cap
  let h' : Gh := { h with κ := fun k => if k = 1000 then v else h.κ k, μ := fun k => if k = 1000 then 0 else h.μ k }
  have hold : ∀ k, k < w.heap.size → (w.drew.alloc (.cells cur 28)).heap[k]? = w.heap[k]? := fun k hk => Below.heap_alloc w.drew _ k hk
  refine ⟨v, rfl, h', _, _, ⟨rfl, rfl⟩, ⟨.sl0 _ _ _ _, by simp [h'], fun _ => by simp [h']⟩, ⟨fun l X hX => ?_, fun l l' X X' b hne h1 h2 => ?_⟩, ?_⟩
  · have hX : AL.look [(1000, LV.grow 28 4 0 0)] l = some X := hX
    simp only [AL.look] at hX
    split at hX
    · rename_i e; subst e; cases hX
      refine ⟨by simp [h'], ⟨[], by simp, .inr ⟨w.heap.size, cap, cur, by simp [h', v], Nat.zero_le _, _root_.Go.heap_alloc_new w.drew _, Nat.zero_le _, hcm, hcs, by simp⟩⟩, fun b c hb => ?_, fun _ _ => trivial⟩
      simp only [h', if_true, v, Value.slice.injEq, Option.some.injEq, Addr.mk.injEq, and_true] at hb
      rw [← hb.1, Nat.zero_mul]
      exact hz _ (Nat.le_refl _)
    · cases hX
  · have h1 : AL.look [(1000, LV.grow 28 4 0 0)] l = some X := h1
    have h2 : AL.look [(1000, LV.grow 28 4 0 0)] l' = some X' := h2
    simp only [AL.look] at h1 h2
    split at h1
    · rename_i e
      split at h2
      · rename_i e2; exact absurd (e.symm.trans e2) hne
      · cases h2
    · cases h1
  · refine ⟨((BelowS.refl _ _).drew).alloc _, fun _ _ _ => rfl, fun b hb => hz b ?_, ⟨fun _ => Nat.le_refl _, fun b o ho => ?_⟩, fun l X hX => (by cases hX), fun l X hX => (by cases hX), fun b ⟨l, X, h1, h2⟩ => .inl ?_⟩
    · simp at hb; omega
    · have hb : b < w.heap.size := by
        refine Nat.lt_of_not_le fun hle => ?_
        rw [hz b hle] at ho; omega
      exact World.cell?_of_block (w := w) (hold b hb)
    · have h1 : AL.look [(1000, LV.grow 28 4 0 0)] l = some X := h1
      simp only [AL.look] at h1
      split at h1
      · rename_i e; subst e; cases h1
        simp only [inB, h', if_true, v, Value.ownBlock, Option.some.injEq] at h2
        omega
      · cases h1
def rowSl (ss : List (List Cube)) : Nat → List Dat := fun i => [.sl 4 (ss.getD i []).length (rowC (ss.getD i []))]
def sumL (ss : List (List Cube)) (i : Nat) : Nat := ((ss.take i).map List.length).sum
theorem sumL_succ (ss : List (List Cube)) (i : Nat) (h : i < ss.length) : sumL ss (i + 1) = sumL ss i + (ss.getD i []).length := by
  unfold sumL
  rw [take_succ_getD ss i [] h, List.map_append, List.sum_append]
  simp
theorem sumL_le (ss : List (List Cube)) (i : Nat) : sumL ss i ≤ ss.flatten.length := by
  unfold sumL
  rw [← List.length_flatten]
  have : ss.flatten = (ss.take i).flatten ++ (ss.drop i).flatten := by rw [← List.flatten_append, List.take_append_drop]
  rw [this, List.length_append]; omega
def concatI (ss : List (List Cube)) (g : Nat → List Dat) (i : Fin (ss.length + 1)) : ASt :=
  ⟨[(11, .p (.d (.v (.int .i64 (i.val : Int))))), (10, .p (.d (.v (.int .i64 (ss.length : Int))))), (9, .p (.d (.sl 1 ss.length g))), (3, .p (.d (.v (.int .i64 (sumL ss i.val : Int))))), (0, .p (.d (.sl 1 ss.length g)))], []⟩
def concatJ (ss : List (List Cube)) (g : Nat → List Dat) (s : {s : Nat × List Cube // s.1 ≤ ss.length ∧ s.2 = (ss.take s.1).flatten}) : ASt :=
  ⟨[(27, .p (.d (.v (.int .i64 (s.val.1 : Int))))), (26, .p (.d (.v (.int .i64 (ss.length : Int))))), (25, .p (.d (.sl 1 ss.length g))), (6, .gr 6 s.val.1 4 s.val.2.length (rowC s.val.2))],
   [(6, .grow 28 4 s.val.2.length s.val.1)]⟩
set_option maxRecDepth 100000 in
set_option maxHeartbeats 2000000 in
theorem Concat_c (ss : List (List Cube)) (g : Nat → List Dat) (hg : ∀ i, i < ss.length → g i = rowSl ss i) (hs : ss.length ≤ 1099511627776) (hl : ss.flatten.length ≤ 1099511627776) :
    ACalls Try.prog 50 [.d (.sl 1 ss.length g)] (· = [.d (.sl 4 ss.flatten.length (rowC ss.flatten))]) := by
  have hle : ∀ i, sumL ss i ≤ 1099511627776 := fun i => Nat.le_trans (sumL_le ss i) hl
  refine z10 Try.func50 rfl (by decide +kernel) (by rw [Try.ntmps50]; simp) ?_; rw [Try.ntmps50]; simp only [frOf]
  (repeat (first | refine q0 ?_ | refine x7 rfl ?_ | refine j7 rfl ?_ | refine z6 ?_ | (refine j0 fun K hK => ?_) | (refine x4 (by kernel_rfl) (by kernel_rfl) fun K hK => ?_) | ((first | refine q6 ?_ | refine x6 ?_ | ((first | refine q4 (hK _ ?_) | refine q5 (hK _ _ (j4 (by kernel_rfl)) ?_)); clear hK K)); (first | show AWP _ _ _ _ _ | ((try simp only [j6]); first | show loopQ _ _ _ _ _ _ | show cutQ _ _ _ _ | show AWP _ _ _ _ _))) | ((first | refine q8 [] rfl ?_ | refine z8 [] rfl ?_); simp (maxSteps := 2000000) (disch := omega) only [go_sem, seval, hd, cb, x5, j5]; (repeat (first | refine ⟨by omega, ?_⟩ | refine ⟨True.intro, ?_⟩)))))
  refine awp_loop (concatI ss g) (fun i => ss.length - i.val) ⟨0, by omega⟩ ?_ (fun s => ?_)
  · unfold concatI
    refine Weak.list ?_ ?_; (all_goals simp (disch := omega) only [AllF, AllL, j10, le_top, x10, exists_eq_left', Option.some.injEq, go_sem, seval, hd, cb, x5, j5]); (all_goals (repeat' (with_reducible apply And.intro))); (all_goals try (first | exact x8 rfl | (refine le_int ?_; omega) | (refine x8 ?_; simp; done)))
  obtain ⟨i, hi⟩ := s
  unfold concatI
  by_cases hn : i < ss.length
  · have r1 := hg i hn
    have st := sumL_succ ss i hn
    have h1 := hle i
    have h2 := hle (i + 1)
    unfold rowSl at r1
    generalize ss.getD i [] = X at r1 st
    (repeat (first | refine q0 ?_ | refine x7 rfl ?_ | refine j7 rfl ?_ | refine z6 ?_ | (refine j0 fun K hK => ?_) | (refine x4 (by kernel_rfl) (by kernel_rfl) fun K hK => ?_) | ((first | refine q6 ?_ | refine x6 ?_ | ((first | refine q4 (hK _ ?_) | refine q5 (hK _ _ (j4 (by kernel_rfl)) ?_)); clear hK K)); (first | show AWP _ _ _ _ _ | ((try simp only [j6]); first | show loopQ _ _ _ _ _ _ | show cutQ _ _ _ _ | show AWP _ _ _ _ _))) | ((first | refine q8 [] rfl ?_ | refine z8 [] rfl ?_); simp (maxSteps := 2000000) (disch := omega) only [go_sem, seval, hd, cb, x5, j5, r1]; (repeat (first | refine ⟨by omega, ?_⟩ | refine ⟨True.intro, ?_⟩)))))
    refine ⟨⟨i + 1, by omega⟩, by simp only []; omega, ?_⟩
    refine Weak.list ?_ ?_; (all_goals simp (disch := omega) only [AllF, AllL, j10, le_top, x10, exists_eq_left', Option.some.injEq, go_sem, seval, hd, cb, x5, j5, r1]); (all_goals (repeat' (with_reducible apply And.intro))); (all_goals try (first | exact x8 rfl | (refine le_int ?_; omega) | (refine x8 ?_; simp; done)))
  · have hil : i = ss.length := by omega
    subst hil
    have hsum : sumL ss ss.length = ss.flatten.length := by unfold sumL; rw [List.take_length, List.length_flatten]
    simp only [hsum]
    generalize hN : ss.flatten.length = n at hl
    by_cases h0 : n = 0
    · subst h0
      (repeat ((fail_if_success (show AWP _ _ (.region 10 _ _) _ _)); first | refine q0 ?_ | refine x7 rfl ?_ | refine j7 rfl ?_ | refine z6 ?_ | (refine j0 fun K hK => ?_) | (refine x4 (by kernel_rfl) (by kernel_rfl) fun K hK => ?_) | ((first | refine q6 ?_ | refine x6 ?_ | ((first | refine q4 (hK _ ?_) | refine q5 (hK _ _ (j4 (by kernel_rfl)) ?_)); clear hK K)); (first | show AWP _ _ _ _ _ | ((try simp only [j6]); first | show loopQ _ _ _ _ _ _ | show cutQ _ _ _ _ | show AWP _ _ _ _ _))) | ((first | refine x9 rfl rfl rfl ?_ | refine j9 rfl rfl rfl ?_); simp (maxSteps := 2000000) (disch := omega) only [go_sem, seval, hd, cb, x5, j5]; (first | refine ⟨_, Grow0_c, ?_⟩)) | ((first | refine q8 [] rfl ?_ | refine z8 [] rfl ?_); simp (maxSteps := 2000000) (disch := omega) only [go_sem, seval, hd, cb, x5, j5]; (repeat (first | refine ⟨by omega, ?_⟩ | refine ⟨True.intro, ?_⟩)))))
      refine awp_grow 6 6 4 28 (rowC []) rfl (by kernel_rfl) rfl ?_
      (repeat (first | refine q0 ?_ | refine x7 rfl ?_ | refine j7 rfl ?_ | refine z6 ?_ | (refine j0 fun K hK => ?_) | (refine x4 (by kernel_rfl) (by kernel_rfl) fun K hK => ?_) | ((first | refine q6 ?_ | refine x6 ?_ | ((first | refine q4 (hK _ ?_) | refine q5 (hK _ _ (j4 (by kernel_rfl)) ?_)); clear hK K)); (first | show AWP _ _ _ _ _ | ((try simp only [j6]); first | show loopQ _ _ _ _ _ _ | show cutQ _ _ _ _ | show AWP _ _ _ _ _))) | ((first | refine q8 [] rfl ?_ | refine z8 [] rfl ?_); simp (maxSteps := 2000000) (disch := omega) only [go_sem, seval, hd, cb, x5, j5]; (repeat (first | refine ⟨by omega, ?_⟩ | refine ⟨True.intro, ?_⟩)))))
      refine awp_loop (concatJ ss g) (fun s => ss.length - s.val.1) ⟨(0, []), by simp, by simp⟩ ?_ (fun s => ?_)
      · unfold concatJ
        refine Weak.list ?_ ?_; (all_goals simp (disch := omega) only [AllF, AllL, j10, le_top, x10, exists_eq_left', Option.some.injEq, go_sem, seval, hd, cb, x5, j5]); (all_goals (repeat' (with_reducible apply And.intro))); (all_goals try (first | exact x8 rfl | (refine le_int ?_; omega) | (refine x8 ?_; simp; done)))
      obtain ⟨⟨j, out⟩, hj, he⟩ := s
      unfold concatJ
      simp only [] at hj he
      have hb : out.length ≤ 1099511627776 := by
        have := sumL_le ss j
        unfold sumL at this
        rw [← List.length_flatten, ← he, hN] at this
        omega
      by_cases hm : j < ss.length
      · have r1 := hg j hm
        have st : (ss.take (j + 1)).flatten = (ss.take j).flatten ++ ss.getD j [] := by
          rw [take_succ_getD ss j [] hm, List.flatten_append]; simp
        have hb2 : (ss.take (j + 1)).flatten.length ≤ 1099511627776 := by
          have := sumL_le ss (j + 1)
          unfold sumL at this
          rw [← List.length_flatten, hN] at this
          omega
        rw [st, List.length_append, ← he] at hb2
        unfold rowSl at r1
        generalize ss.getD j [] = X at r1 st hb2
        (repeat (first | refine q0 ?_ | refine x7 rfl ?_ | refine j7 rfl ?_ | refine z6 ?_ | (refine j0 fun K hK => ?_) | (refine x4 (by kernel_rfl) (by kernel_rfl) fun K hK => ?_) | ((first | refine q6 ?_ | refine x6 ?_ | ((first | refine q4 (hK _ ?_) | refine q5 (hK _ _ (j4 (by kernel_rfl)) ?_)); clear hK K)); (first | show AWP _ _ _ _ _ | ((try simp only [j6]); first | show loopQ _ _ _ _ _ _ | show cutQ _ _ _ _ | show AWP _ _ _ _ _))) | ((first | refine q8 [] rfl ?_ | refine z8 [] rfl ?_); simp (maxSteps := 2000000) (disch := omega) only [go_sem, seval, hd, cb, x5, j5, r1]; (repeat (first | refine ⟨by omega, ?_⟩ | refine ⟨True.intro, ?_⟩)))))
        refine ⟨⟨(j + 1, out ++ X), by simp only []; omega, by rw [st, ← he]⟩, by simp only []; omega, ?_⟩
        refine Weak.list ?_ ?_; (all_goals simp (disch := omega) only [AllF, AllL, j10, le_top, x10, exists_eq_left', Option.some.injEq, go_sem, seval, hd, cb, x5, j5, r1]); (all_goals (repeat' (with_reducible apply And.intro))); (all_goals try (first | exact x8 rfl | (refine le_int ?_; omega) | (refine x8 ?_; simp; done)))
        · exact le_grgr rfl (by simp) (fun k hk => rowC_cat out X k)
        · exact lle_grow (by simp) rfl
      · have hjl : j = ss.length := by omega
        subst hjl
        rw [List.take_length] at he
        (repeat (first | refine q0 ?_ | refine x7 rfl ?_ | refine j7 rfl ?_ | refine z6 ?_ | (refine j0 fun K hK => ?_) | (refine x4 (by kernel_rfl) (by kernel_rfl) fun K hK => ?_) | ((first | refine q6 ?_ | refine x6 ?_ | ((first | refine q4 (hK _ ?_) | refine q5 (hK _ _ (j4 (by kernel_rfl)) ?_)); clear hK K)); (first | show AWP _ _ _ _ _ | ((try simp only [j6]); first | show loopQ _ _ _ _ _ _ | show cutQ _ _ _ _ | show AWP _ _ _ _ _))) | ((first | refine q8 [] rfl ?_ | refine z8 [] rfl ?_); simp (maxSteps := 2000000) (disch := omega) only [go_sem, seval, hd, cb, x5, j5]; (repeat (first | refine ⟨by omega, ?_⟩ | refine ⟨True.intro, ?_⟩)))))
        refine awp_slot 2 _ (.p (.d (.sl 4 out.length (rowC out)))) rfl (le_gr rfl (fun _ _ => rfl)) ?_
        refine q10 ⟨_, ?_, rfl⟩; rw [Try.results50]; simp (disch := omega) only [ResVars, ResVar, ptrLoc, go_sem, seval, hd, cb, x5, j5]
        rw [← hN, ← he]
    · have gr := Grow_c n (by omega) hl
      (repeat ((fail_if_success (show AWP _ _ (.region 9 _ _) _ _)); first | refine q0 ?_ | refine x7 rfl ?_ | refine j7 rfl ?_ | refine z6 ?_ | (refine j0 fun K hK => ?_) | (refine x4 (by kernel_rfl) (by kernel_rfl) fun K hK => ?_) | ((first | refine q6 ?_ | refine x6 ?_ | ((first | refine q4 (hK _ ?_) | refine q5 (hK _ _ (j4 (by kernel_rfl)) ?_)); clear hK K)); (first | show AWP _ _ _ _ _ | ((try simp only [j6]); first | show loopQ _ _ _ _ _ _ | show cutQ _ _ _ _ | show AWP _ _ _ _ _))) | ((first | refine q8 [] rfl ?_ | refine z8 [] rfl ?_); simp (maxSteps := 2000000) (disch := omega) only [go_sem, seval, hd, cb, x5, j5]; (repeat (first | refine ⟨by omega, ?_⟩ | refine ⟨True.intro, ?_⟩)))))
      refine j0 fun K hK => ?_
      (first | refine q7 [] _ _ ?_ | refine z7 [] _ _ _ ?_); simp (maxSteps := 2000000) (disch := omega) only [go_sem, seval, hd, cb, x5, j5]; (repeat refine ⟨by omega, ?_⟩)
      refine walkS_cons _ (step_mcall [(1000, 6)] rfl rfl rfl rfl rfl rfl gr rfl (namesOK_new 6 (by kernel_rfl) rfl rfl)) ?_
      simp (maxSteps := 2000000) (disch := omega) only [go_sem, seval, hd, cb, x5, j5]
      (repeat (first | refine q0 ?_ | refine x7 rfl ?_ | refine j7 rfl ?_ | refine z6 ?_ | (refine j0 fun K hK => ?_) | (refine x4 (by kernel_rfl) (by kernel_rfl) fun K hK => ?_) | ((first | refine q6 ?_ | refine x6 ?_ | ((first | refine q4 (hK _ ?_) | refine q5 (hK _ _ (j4 (by kernel_rfl)) ?_)); clear hK K)); (first | show AWP _ _ _ _ _ | ((try simp only [j6]); first | show loopQ _ _ _ _ _ _ | show cutQ _ _ _ _ | show AWP _ _ _ _ _))) | ((first | refine q8 [] rfl ?_ | refine z8 [] rfl ?_); simp (maxSteps := 2000000) (disch := omega) only [go_sem, seval, hd, cb, x5, j5]; (repeat (first | refine ⟨by omega, ?_⟩ | refine ⟨True.intro, ?_⟩)))))
      refine awp_loop (concatJ ss g) (fun s => ss.length - s.val.1) ⟨(0, []), by simp, by simp⟩ ?_ (fun s => ?_)
      · unfold concatJ
        refine Weak.list ?_ ?_; (all_goals simp (disch := omega) only [AllF, AllL, j10, le_top, x10, exists_eq_left', Option.some.injEq, go_sem, seval, hd, cb, x5, j5]); (all_goals (repeat' (with_reducible apply And.intro))); (all_goals try (first | exact x8 rfl | (refine le_int ?_; omega) | (refine x8 ?_; simp; done)))
      obtain ⟨⟨j, out⟩, hj, he⟩ := s
      unfold concatJ
      simp only [] at hj he
      have hb : out.length ≤ 1099511627776 := by
        have := sumL_le ss j
        unfold sumL at this
        rw [← List.length_flatten, ← he, hN] at this
        omega
      by_cases hm : j < ss.length
      · have r1 := hg j hm
        have st : (ss.take (j + 1)).flatten = (ss.take j).flatten ++ ss.getD j [] := by
          rw [take_succ_getD ss j [] hm, List.flatten_append]; simp
        have hb2 : (ss.take (j + 1)).flatten.length ≤ 1099511627776 := by
          have := sumL_le ss (j + 1)
          unfold sumL at this
          rw [← List.length_flatten, hN] at this
          omega
        rw [st, List.length_append, ← he] at hb2
        unfold rowSl at r1
        generalize ss.getD j [] = X at r1 st hb2
        (repeat (first | refine q0 ?_ | refine x7 rfl ?_ | refine j7 rfl ?_ | refine z6 ?_ | (refine j0 fun K hK => ?_) | (refine x4 (by kernel_rfl) (by kernel_rfl) fun K hK => ?_) | ((first | refine q6 ?_ | refine x6 ?_ | ((first | refine q4 (hK _ ?_) | refine q5 (hK _ _ (j4 (by kernel_rfl)) ?_)); clear hK K)); (first | show AWP _ _ _ _ _ | ((try simp only [j6]); first | show loopQ _ _ _ _ _ _ | show cutQ _ _ _ _ | show AWP _ _ _ _ _))) | ((first | refine q8 [] rfl ?_ | refine z8 [] rfl ?_); simp (maxSteps := 2000000) (disch := omega) only [go_sem, seval, hd, cb, x5, j5, r1]; (repeat (first | refine ⟨by omega, ?_⟩ | refine ⟨True.intro, ?_⟩)))))
        refine ⟨⟨(j + 1, out ++ X), by simp only []; omega, by rw [st, ← he]⟩, by simp only []; omega, ?_⟩
        refine Weak.list ?_ ?_; (all_goals simp (disch := omega) only [AllF, AllL, j10, le_top, x10, exists_eq_left', Option.some.injEq, go_sem, seval, hd, cb, x5, j5, r1]); (all_goals (repeat' (with_reducible apply And.intro))); (all_goals try (first | exact x8 rfl | (refine le_int ?_; omega) | (refine x8 ?_; simp; done)))
        · exact le_grgr rfl (by simp) (fun k hk => rowC_cat out X k)
        · exact lle_grow (by simp) rfl
      · have hjl : j = ss.length := by omega
        subst hjl
        rw [List.take_length] at he
        (repeat (first | refine q0 ?_ | refine x7 rfl ?_ | refine j7 rfl ?_ | refine z6 ?_ | (refine j0 fun K hK => ?_) | (refine x4 (by kernel_rfl) (by kernel_rfl) fun K hK => ?_) | ((first | refine q6 ?_ | refine x6 ?_ | ((first | refine q4 (hK _ ?_) | refine q5 (hK _ _ (j4 (by kernel_rfl)) ?_)); clear hK K)); (first | show AWP _ _ _ _ _ | ((try simp only [j6]); first | show loopQ _ _ _ _ _ _ | show cutQ _ _ _ _ | show AWP _ _ _ _ _))) | ((first | refine q8 [] rfl ?_ | refine z8 [] rfl ?_); simp (maxSteps := 2000000) (disch := omega) only [go_sem, seval, hd, cb, x5, j5]; (repeat (first | refine ⟨by omega, ?_⟩ | refine ⟨True.intro, ?_⟩)))))
        refine awp_slot 2 _ (.p (.d (.sl 4 out.length (rowC out)))) rfl (le_gr rfl (fun _ _ => rfl)) ?_
        refine q10 ⟨_, ?_, rfl⟩; rw [Try.results50]; simp (disch := omega) only [ResVars, ResVar, ptrLoc, go_sem, seval, hd, cb, x5, j5]
        rw [← hN, ← he]
def joinV (a b : List Cube) : List Cube := if soundP a && soundP b then leanV (a ++ b) else []
def joinE (a b : List Cube) : Int := if soundP a && soundP b then leanE (a ++ b) else 2
theorem JoinP_c (a b : List Cube) (ha : a.length ≤ 1099511627776) (hb : b.length ≤ 1099511627776) : ACalls Try.prog 33 [.d (.sl 4 a.length (rowC a)), .d (.sl 4 b.length (rowC b))]
    (· = [.d (.sl 4 (joinV a b).length (rowC (joinV a b))), .d (.v (.int .i64 (joinE a b)))]) := by
  have pr := pair_c a b ha hb
  unfold pairE at pr
  unfold joinV joinE
  cases hs : (soundP a && soundP b)
  · rw [hs] at pr
    simp only [Bool.false_eq_true, if_false] at pr ⊢
    refine z10 Try.func33 rfl (by decide +kernel) (by rw [Try.ntmps33]; simp) ?_; rw [Try.ntmps33]; simp only [frOf]
    (repeat (first | refine q0 ?_ | refine x7 rfl ?_ | refine j7 rfl ?_ | refine z6 ?_ | (refine j0 fun K hK => ?_) | (refine x4 (by kernel_rfl) (by kernel_rfl) fun K hK => ?_) | ((first | refine q6 ?_ | refine x6 ?_ | ((first | refine q4 (hK _ ?_) | refine q5 (hK _ _ (j4 (by kernel_rfl)) ?_)); clear hK K)); (first | show AWP _ _ _ _ _ | ((try simp only [j6]); first | show loopQ _ _ _ _ _ _ | show cutQ _ _ _ _ | show AWP _ _ _ _ _))) | ((first | refine x9 rfl rfl rfl ?_ | refine j9 rfl rfl rfl ?_); simp (maxSteps := 2000000) (disch := omega) only [go_sem, seval, hd, cb, x5, j5]; (first | refine ⟨_, pr, ?_⟩)) | ((first | refine q8 [] rfl ?_ | refine z8 [] rfl ?_); simp (maxSteps := 2000000) (disch := omega) only [go_sem, seval, hd, cb, x5, j5]; (repeat (first | refine ⟨by omega, ?_⟩ | refine ⟨True.intro, ?_⟩)))))
    refine awp_slot 4 _ (.p (.d (.sl 4 ([] : List Cube).length (rowC [])))) rfl (le_nil 4 _ _ rfl) ?_
    refine q10 ⟨_, ?_, rfl⟩; rw [Try.results33]; simp (disch := omega) only [ResVars, ResVar, ptrLoc, go_sem, seval, hd, cb, x5, j5]
  · rw [hs] at pr
    simp only [if_true] at pr ⊢
    rw [Bool.and_eq_true] at hs
    have h1 := soundP_len hs.1
    have h2 := soundP_len hs.2
    have cc := Concat_c [a, b] (fun i => [[Dat.sl 4 a.length (rowC a)], [Dat.sl 4 b.length (rowC b)]].getD i []) (fun i hi => by
      match i, hi with
      | 0, _ => rfl
      | 1, _ => rfl) (by simp) (by simp; omega)
    simp only [List.flatten_cons, List.flatten_nil, List.append_nil] at cc
    have ln := lean_c (a ++ b) (by simp; omega)
    generalize a ++ b = c at cc ln
    refine z10 Try.func33 rfl (by decide +kernel) (by rw [Try.ntmps33]; simp) ?_; rw [Try.ntmps33]; simp only [frOf]
    (repeat (first | refine q0 ?_ | refine x7 rfl ?_ | refine j7 rfl ?_ | refine z6 ?_ | (refine j0 fun K hK => ?_) | (refine x4 (by kernel_rfl) (by kernel_rfl) fun K hK => ?_) | ((first | refine q6 ?_ | refine x6 ?_ | ((first | refine q4 (hK _ ?_) | refine q5 (hK _ _ (j4 (by kernel_rfl)) ?_)); clear hK K)); (first | show AWP _ _ _ _ _ | ((try simp only [j6]); first | show loopQ _ _ _ _ _ _ | show cutQ _ _ _ _ | show AWP _ _ _ _ _))) | ((first | refine x9 rfl rfl rfl ?_ | refine j9 rfl rfl rfl ?_); simp (maxSteps := 2000000) (disch := omega) only [go_sem, seval, hd, cb, x5, j5]; (first | refine ⟨_, pr, ?_⟩ | refine ⟨_, cc, ?_⟩ | refine ⟨_, ln, ?_⟩)) | ((first | refine q8 [] rfl ?_ | refine z8 [] rfl ?_); simp (maxSteps := 2000000) (disch := omega) only [go_sem, seval, hd, cb, x5, j5]; (repeat (first | refine ⟨by omega, ?_⟩ | refine ⟨True.intro, ?_⟩)))))
    refine q10 ⟨_, ?_, rfl⟩; rw [Try.results33]; simp (disch := omega) only [ResVars, ResVar, ptrLoc, go_sem, seval, hd, cb, x5, j5]
end Go.Proofs.Ytemcdefpihkfpaa
