/- Law 23: no agent; a letter that comes twice. Conditions: none, but that no row is greater than memory bears. -/
import Derived.Test.YtokibghllpfeaaaAgL
set_option linter.unusedSimpArgs false
set_option linter.unusedVariables false
namespace Go.Proofs.Ytokibghllpfeaaa
open Go Go.Proofs.Ytokibghllpfeaaa.AL
def nilV : PV := .d (.v (.slice none 0 0))
def ptr0 : PV := .d (.v (.pointer none))
theorem Tables_nil (v : Int) : ACalls Try.prog 18 [ptr0, .d (.v (.int .i64 v))] (· = [nilV, .d (.v (.bool false))]) := by
  refine acalls_of_awp Try.func18 rfl (by decide +kernel) (by rw [Try.ntmps18]; simp) ?_; rw [Try.ntmps18]; simp only [frOf]
  (repeat (first | refine awp_seq ?_ | refine awp_yes rfl ?_ | refine awp_no rfl ?_ | refine awp_block ?_ | (refine awp_region fun K hK => ?_) | (refine awp_draw (by kernel_rfl) (by kernel_rfl) fun K hK => ?_) | (refine awp_skip ?_; (first | show AWP _ _ _ _ _ | show loopQ _ _ _ _ _ _ | (simp only [blockQ_n]; first | show AWP _ _ _ _ _ | show loopQ _ _ _ _ _ _))) | (refine awp_exit ?_; (first | show AWP _ _ _ _ _ | show loopQ _ _ _ _ _ _ | (simp only [blockQ_n]; first | show AWP _ _ _ _ _ | show loopQ _ _ _ _ _ _))) | ((first | refine walkS_end (hK _ ?_) | refine walkD_end (hK _ _ (okTrace_spec (by kernel_rfl)) ?_)); clear hK K; (first | show AWP _ _ _ _ _ | show loopQ _ _ _ _ _ _ | (simp only [blockQ_n]; first | show AWP _ _ _ _ _ | show loopQ _ _ _ _ _ _))) | ((first | refine walkS_run1 [] rfl ?_ | refine walkD_run1 [] rfl ?_); simp (maxSteps := 2000000) (disch := omega) only [go_sem, ↓reduceIte, reduceCtorEq, Nat.reduceLT, Nat.reducePow, Nat.reduceLeDiff, Nat.reduceAdd, Nat.reduceMul, Nat.reduceSub, Nat.reduceEqDiff, Nat.reduceBEq, Int.reduceToNat, Int.reduceBEq, Int.reduceBNe, ptr0, letD]; (repeat (first | refine ⟨by omega, ?_⟩ | refine ⟨True.intro, ?_⟩)))))
  refine awp_ret ⟨_, ?_, rfl⟩; rw [Try.results18]; simp (disch := omega) only [ResVars, ResVar, ptrLoc, go_sem, ↓reduceIte, reduceCtorEq, Nat.reduceLT, Nat.reducePow, Nat.reduceLeDiff, Nat.reduceAdd, Nat.reduceMul, Nat.reduceSub, Nat.reduceEqDiff, Nat.reduceBEq, Int.reduceToNat, Int.reduceBEq, Int.reduceBNe, ptr0, letD]
  rfl
theorem Current_nil : ACalls Try.prog 15 [ptr0] (· = [.d (.v (.int .i64 0))]) := by
  refine acalls_of_awp Try.func15 rfl (by decide +kernel) (by rw [Try.ntmps15]; simp) ?_; rw [Try.ntmps15]; simp only [frOf]
  (repeat (first | refine awp_seq ?_ | refine awp_yes rfl ?_ | refine awp_no rfl ?_ | refine awp_block ?_ | (refine awp_region fun K hK => ?_) | (refine awp_draw (by kernel_rfl) (by kernel_rfl) fun K hK => ?_) | (refine awp_skip ?_; (first | show AWP _ _ _ _ _ | show loopQ _ _ _ _ _ _ | (simp only [blockQ_n]; first | show AWP _ _ _ _ _ | show loopQ _ _ _ _ _ _))) | (refine awp_exit ?_; (first | show AWP _ _ _ _ _ | show loopQ _ _ _ _ _ _ | (simp only [blockQ_n]; first | show AWP _ _ _ _ _ | show loopQ _ _ _ _ _ _))) | ((first | refine walkS_end (hK _ ?_) | refine walkD_end (hK _ _ (okTrace_spec (by kernel_rfl)) ?_)); clear hK K; (first | show AWP _ _ _ _ _ | show loopQ _ _ _ _ _ _ | (simp only [blockQ_n]; first | show AWP _ _ _ _ _ | show loopQ _ _ _ _ _ _))) | ((first | refine walkS_run1 [] rfl ?_ | refine walkD_run1 [] rfl ?_); simp (maxSteps := 2000000) (disch := omega) only [go_sem, ↓reduceIte, reduceCtorEq, Nat.reduceLT, Nat.reducePow, Nat.reduceLeDiff, Nat.reduceAdd, Nat.reduceMul, Nat.reduceSub, Nat.reduceEqDiff, Nat.reduceBEq, Int.reduceToNat, Int.reduceBEq, Int.reduceBNe, ptr0, letD]; (repeat (first | refine ⟨by omega, ?_⟩ | refine ⟨True.intro, ?_⟩)))))
  refine awp_ret ⟨_, ?_, rfl⟩; rw [Try.results15]; simp (disch := omega) only [ResVars, ResVar, ptrLoc, go_sem, ↓reduceIte, reduceCtorEq, Nat.reduceLT, Nat.reducePow, Nat.reduceLeDiff, Nat.reduceAdd, Nat.reduceMul, Nat.reduceSub, Nat.reduceEqDiff, Nat.reduceBEq, Int.reduceToNat, Int.reduceBEq, Int.reduceBNe, ptr0, letD]
theorem Versions_nil : ACalls Try.prog 14 [ptr0] (· = [nilV]) := by
  refine acalls_of_awp Try.func14 rfl (by decide +kernel) (by rw [Try.ntmps14]; simp) ?_; rw [Try.ntmps14]; simp only [frOf]
  (repeat (first | refine awp_seq ?_ | refine awp_yes rfl ?_ | refine awp_no rfl ?_ | refine awp_block ?_ | (refine awp_region fun K hK => ?_) | (refine awp_draw (by kernel_rfl) (by kernel_rfl) fun K hK => ?_) | (refine awp_skip ?_; (first | show AWP _ _ _ _ _ | show loopQ _ _ _ _ _ _ | (simp only [blockQ_n]; first | show AWP _ _ _ _ _ | show loopQ _ _ _ _ _ _))) | (refine awp_exit ?_; (first | show AWP _ _ _ _ _ | show loopQ _ _ _ _ _ _ | (simp only [blockQ_n]; first | show AWP _ _ _ _ _ | show loopQ _ _ _ _ _ _))) | ((first | refine walkS_end (hK _ ?_) | refine walkD_end (hK _ _ (okTrace_spec (by kernel_rfl)) ?_)); clear hK K; (first | show AWP _ _ _ _ _ | show loopQ _ _ _ _ _ _ | (simp only [blockQ_n]; first | show AWP _ _ _ _ _ | show loopQ _ _ _ _ _ _))) | ((first | refine walkS_run1 [] rfl ?_ | refine walkD_run1 [] rfl ?_); simp (maxSteps := 2000000) (disch := omega) only [go_sem, ↓reduceIte, reduceCtorEq, Nat.reduceLT, Nat.reducePow, Nat.reduceLeDiff, Nat.reduceAdd, Nat.reduceMul, Nat.reduceSub, Nat.reduceEqDiff, Nat.reduceBEq, Int.reduceToNat, Int.reduceBEq, Int.reduceBNe, ptr0, letD]; (repeat (first | refine ⟨by omega, ?_⟩ | refine ⟨True.intro, ?_⟩)))))
  refine awp_ret ⟨_, ?_, rfl⟩; rw [Try.results14]; simp (disch := omega) only [ResVars, ResVar, ptrLoc, go_sem, ↓reduceIte, reduceCtorEq, Nat.reduceLT, Nat.reducePow, Nat.reduceLeDiff, Nat.reduceAdd, Nat.reduceMul, Nat.reduceSub, Nat.reduceEqDiff, Nat.reduceBEq, Int.reduceToNat, Int.reduceBEq, Int.reduceBNe, ptr0, letD]
  rfl
set_option maxRecDepth 100000 in
theorem Letter_nilA (l : Ltr) : ACalls Try.prog 13 [ptr0, .agg (letD l)] (· = [nilV]) := by
  refine acalls_of_awp Try.func13 rfl (by decide +kernel) (by rw [Try.ntmps13]; simp) ?_; rw [Try.ntmps13]; simp only [frOf]
  (repeat (first | refine awp_seq ?_ | refine awp_yes rfl ?_ | refine awp_no rfl ?_ | refine awp_block ?_ | (refine awp_region fun K hK => ?_) | (refine awp_draw (by kernel_rfl) (by kernel_rfl) fun K hK => ?_) | (refine awp_skip ?_; (first | show AWP _ _ _ _ _ | show loopQ _ _ _ _ _ _ | (simp only [blockQ_n]; first | show AWP _ _ _ _ _ | show loopQ _ _ _ _ _ _))) | (refine awp_exit ?_; (first | show AWP _ _ _ _ _ | show loopQ _ _ _ _ _ _ | (simp only [blockQ_n]; first | show AWP _ _ _ _ _ | show loopQ _ _ _ _ _ _))) | ((first | refine walkS_end (hK _ ?_) | refine walkD_end (hK _ _ (okTrace_spec (by kernel_rfl)) ?_)); clear hK K; (first | show AWP _ _ _ _ _ | show loopQ _ _ _ _ _ _ | (simp only [blockQ_n]; first | show AWP _ _ _ _ _ | show loopQ _ _ _ _ _ _))) | ((first | refine walkS_run1 [] rfl ?_ | refine walkD_run1 [] rfl ?_); simp (maxSteps := 2000000) (disch := omega) only [go_sem, ↓reduceIte, reduceCtorEq, Nat.reduceLT, Nat.reducePow, Nat.reduceLeDiff, Nat.reduceAdd, Nat.reduceMul, Nat.reduceSub, Nat.reduceEqDiff, Nat.reduceBEq, Int.reduceToNat, Int.reduceBEq, Int.reduceBNe, ptr0, letD]; (repeat (first | refine ⟨by omega, ?_⟩ | refine ⟨True.intro, ?_⟩)))))
  refine awp_ret ⟨_, ?_, rfl⟩; rw [Try.results13]; simp (disch := omega) only [ResVars, ResVar, ptrLoc, go_sem, ↓reduceIte, reduceCtorEq, Nat.reduceLT, Nat.reducePow, Nat.reduceLeDiff, Nat.reduceAdd, Nat.reduceMul, Nat.reduceSub, Nat.reduceEqDiff, Nat.reduceBEq, Int.reduceToNat, Int.reduceBEq, Int.reduceBNe, ptr0, letD]
  rfl
set_option maxRecDepth 100000 in
theorem AgentNone_c (l : Ltr) (n : Int) : ACalls Try.prog 6 [.agg (letD l), .d (.v (.int .i64 n))] (· = [.d (.v (.bool true))]) := by
  have k1 := Tables_nil n
  have k2 := Letter_nilA l
  have k3 := Current_nil
  have k4 := Versions_nil
  unfold ptr0 nilV at *
  unfold letD at *
  refine acalls_of_awp Try.func6 rfl (by decide +kernel) (by rw [Try.ntmps6]; simp) ?_; rw [Try.ntmps6]; simp only [frOf]
  (repeat (first | refine awp_seq ?_ | refine awp_yes rfl ?_ | refine awp_no rfl ?_ | refine awp_block ?_ | (refine awp_region fun K hK => ?_) | (refine awp_draw (by kernel_rfl) (by kernel_rfl) fun K hK => ?_) | (refine awp_skip ?_; (first | show AWP _ _ _ _ _ | show loopQ _ _ _ _ _ _ | (simp only [blockQ_n]; first | show AWP _ _ _ _ _ | show loopQ _ _ _ _ _ _))) | (refine awp_exit ?_; (first | show AWP _ _ _ _ _ | show loopQ _ _ _ _ _ _ | (simp only [blockQ_n]; first | show AWP _ _ _ _ _ | show loopQ _ _ _ _ _ _))) | ((first | refine walkS_end (hK _ ?_) | refine walkD_end (hK _ _ (okTrace_spec (by kernel_rfl)) ?_)); clear hK K; (first | show AWP _ _ _ _ _ | show loopQ _ _ _ _ _ _ | (simp only [blockQ_n]; first | show AWP _ _ _ _ _ | show loopQ _ _ _ _ _ _))) | ((first | refine walkS_call3 rfl rfl rfl ?_ | refine walkD_call3 rfl rfl rfl ?_); simp (maxSteps := 2000000) (disch := omega) only [go_sem, ↓reduceIte, reduceCtorEq, Nat.reduceLT, Nat.reducePow, Nat.reduceLeDiff, Nat.reduceAdd, Nat.reduceMul, Nat.reduceSub, Nat.reduceEqDiff, Nat.reduceBEq, Int.reduceToNat, Int.reduceBEq, Int.reduceBNe, ptr0, letD, nilV]; (first | refine ⟨_, k1, ?_⟩ | refine ⟨_, awake23_c, ?_⟩ | refine ⟨_, k2, ?_⟩ | refine ⟨_, k3, ?_⟩ | refine ⟨_, k4, ?_⟩)) | ((first | refine walkS_run1 [] rfl ?_ | refine walkD_run1 [] rfl ?_); simp (maxSteps := 2000000) (disch := omega) only [go_sem, ↓reduceIte, reduceCtorEq, Nat.reduceLT, Nat.reducePow, Nat.reduceLeDiff, Nat.reduceAdd, Nat.reduceMul, Nat.reduceSub, Nat.reduceEqDiff, Nat.reduceBEq, Int.reduceToNat, Int.reduceBEq, Int.reduceBNe, ptr0, letD, nilV]; (repeat (first | refine ⟨by omega, ?_⟩ | refine ⟨True.intro, ?_⟩)))))
  refine awp_ret ⟨_, ?_, rfl⟩; rw [Try.results6]; simp (disch := omega) only [ResVars, ResVar, ptrLoc, go_sem, ↓reduceIte, reduceCtorEq, Nat.reduceLT, Nat.reducePow, Nat.reduceLeDiff, Nat.reduceAdd, Nat.reduceMul, Nat.reduceSub, Nat.reduceEqDiff, Nat.reduceBEq, Int.reduceToNat, Int.reduceBEq, Int.reduceBNe, ptr0, letD, nilV]
/-! ### the state of an agent -/
structure AgB (a : Ag) (k : Nat) : Prop where
  nd : (a.es.map (·.1)).Nodup
  wf : ∀ z ∈ a.es.map (·.1), inI64 z
  len : a.es.length ≤ k
  small : ∀ e ∈ a.es, smallR e.2
theorem AgB.ok {a : Ag} {k : Nat} (h : AgB a k) (hk : k ≤ 1099511627776) : AgOk a := ⟨h.nd, h.wf, by have := h.len; omega, h.small⟩
theorem putA_keys (v : Int) (t : List (List Rule)) : ∀ es : List (Int × List (List Rule)), (putA v t es).map (·.1) = if v ∈ es.map (·.1) then es.map (·.1) else es.map (·.1) ++ [v]
  | [] => by simp [putA]
  | e :: r => by
    have ih := putA_keys v t r
    unfold putA
    by_cases h : e.1 = v
    · rw [if_pos h]; simp [h]
    · rw [if_neg h, List.map_cons, ih]
      by_cases h2 : v ∈ r.map (·.1)
      · rw [if_pos h2, if_pos (by simp only [List.map_cons, List.mem_cons]; exact .inr h2)]; rfl
      · rw [if_neg h2, if_neg (by simp only [List.map_cons, List.mem_cons]; rintro (e | e); exact h e.symm; exact h2 e)]; rfl
theorem putA_mem {v : Int} {t : List (List Rule)} : ∀ {es : List (Int × List (List Rule))} {e}, e ∈ putA v t es → e = (v, t) ∨ e ∈ es
  | [], e, h => by simp [putA] at h; exact .inl h
  | x :: r, e, h => by
    unfold putA at h
    split at h
    · rcases List.mem_cons.1 h with h | h
      · exact .inl h
      · exact .inr (by simp [h])
    · rcases List.mem_cons.1 h with h | h
      · exact .inr (by simp [h])
      · rcases putA_mem h with h | h
        · exact .inl h
        · exact .inr (by simp [h])
theorem delA_sub (v : Int) : ∀ es : List (Int × List (List Rule)), (delA v es).Sublist es
  | [] => List.Sublist.refl _
  | e :: r => by
    unfold delA
    split
    · exact List.sublist_cons_self _ _
    · exact (delA_sub v r).cons_cons _
theorem AgB.step {a : Ag} {k : Nat} (h : AgB a k) (l : Ltr) (hs : smallR l.ts) (hv : inI64 l.ve) : AgB (a.step l).1 (k + 1) := by
  have same : ∀ {b : Ag}, b.es = a.es → AgB b (k + 1) := fun {b} e => ⟨by rw [e]; exact h.nd, by rw [e]; exact h.wf, by rw [e]; have := h.len; omega, by rw [e]; exact h.small⟩
  unfold Ag.step
  split
  · exact same rfl
  · split
    · refine ⟨?_, fun z hz => ?_, ?_, fun e he => ?_⟩
      · simp only [putA_keys]
        split
        · exact h.nd
        · rename_i hn
          refine List.nodup_append.2 ⟨h.nd, by simp, fun x hx y hy e => ?_⟩
          simp only [List.mem_singleton] at hy
          subst hy; subst e; exact hn hx
      · simp only [putA_keys] at hz
        split at hz
        · exact h.wf z hz
        · rcases List.mem_append.1 hz with hz | hz
          · exact h.wf z hz
          · simp only [List.mem_singleton] at hz; subst hz; exact hv
      · have := congrArg List.length (putA_keys l.ve l.ts a.es)
        have hl := h.len
        rw [List.length_map] at this
        simp only []
        rw [this]
        split <;> simp <;> omega
      · rcases putA_mem he with rfl | he
        · exact hs
        · exact h.small e he
    · split
      · split
        · exact same rfl
        · exact same rfl
      · split
        · split
          · exact same rfl
          · have hsub := delA_sub l.ve a.es
            exact ⟨(hsub.map _).nodup h.nd, fun z hz => h.wf z ((hsub.map _).subset hz), by have := hsub.length_le; have := h.len; simp only []; omega, fun e he => h.small e (hsub.subset he)⟩
        · exact same rfl
theorem getA_putA (v : Int) (t : List (List Rule)) : ∀ es, getA v (putA v t es) = some t
  | [] => by simp [putA, getA]
  | e :: r => by
    unfold putA
    split
    · simp [getA]
    · rename_i h; simp [getA, h, getA_putA v t r]
theorem putA_twice (v : Int) (t : List (List Rule)) : ∀ es, putA v t (putA v t es) = putA v t es
  | [] => by simp [putA]
  | e :: r => by
    by_cases h : e.1 = v
    · simp [putA, h]
    · simp [putA, h, putA_twice v t r]
theorem delA_none {v : Int} : ∀ {es : List (Int × List (List Rule))}, v ∉ es.map (·.1) → delA v es = es
  | [], _ => rfl
  | e :: r, h => by
    simp only [List.map_cons, List.mem_cons, not_or] at h
    unfold delA
    rw [if_neg (fun x => h.1 x.symm), delA_none h.2]
theorem delA_twice {v : Int} : ∀ {es : List (Int × List (List Rule))}, (es.map (·.1)).Nodup → delA v (delA v es) = delA v es
  | [], _ => rfl
  | e :: r, h => by
    rw [List.map_cons, List.nodup_cons] at h
    by_cases hv : e.1 = v
    · have e1 : delA v (e :: r) = r := by simp [delA, hv]
      rw [e1]
      exact delA_none (v := v) (es := r) (by rw [← hv]; exact h.1)
    · have e1 : delA v (e :: r) = e :: delA v r := by simp [delA, hv]
      rw [e1]
      simp [delA, hv, delA_twice h.2]
def late (a : Ag) (l : Ltr) : Prop := l.fr ≠ -1 ∨ l.to ≠ a.n ∨ l.se < a.ser
theorem step_late {a : Ag} {l : Ltr} (h : late a l) : a.step l = (a, 0) := by unfold Ag.step; exact if_pos h
theorem step_1 {a : Ag} {l : Ltr} (h : ¬ late a l) (k1 : l.kd = 1) : a.step l = ({ a with ser := l.se, es := putA l.ve l.ts a.es }, 2) := by unfold late at h; unfold Ag.step; rw [if_neg h, if_pos k1]
theorem step_3y {a : Ag} {l : Ltr} (h : ¬ late a l) (k3 : l.kd = 3) (hg : (getA l.ve a.es).isSome = true) : a.step l = ({ a with ser := l.se, cur := l.ve }, 4) := by unfold late at h; unfold Ag.step; rw [if_neg h, if_neg (by omega), if_pos k3, if_pos hg]
theorem step_3n {a : Ag} {l : Ltr} (h : ¬ late a l) (k3 : l.kd = 3) (hg : (getA l.ve a.es).isSome = false) : a.step l = ({ a with ser := l.se }, 0) := by unfold late at h; unfold Ag.step; rw [if_neg h, if_neg (by omega), if_pos k3, if_neg (by rw [hg]; simp)]
theorem step_5s {a : Ag} {l : Ltr} (h : ¬ late a l) (k5 : l.kd = 5) (hv : l.ve = a.cur) : a.step l = ({ a with ser := l.se }, 0) := by unfold late at h; unfold Ag.step; rw [if_neg h, if_neg (by omega), if_neg (by omega), if_pos k5, if_pos hv]
theorem step_5o {a : Ag} {l : Ltr} (h : ¬ late a l) (k5 : l.kd = 5) (hv : l.ve ≠ a.cur) : a.step l = ({ a with ser := l.se, es := delA l.ve a.es }, 6) := by unfold late at h; unfold Ag.step; rw [if_neg h, if_neg (by omega), if_neg (by omega), if_pos k5, if_neg hv]
theorem step_o {a : Ag} {l : Ltr} (h : ¬ late a l) (k1 : l.kd ≠ 1) (k3 : l.kd ≠ 3) (k5 : l.kd ≠ 5) : a.step l = ({ a with ser := l.se }, 0) := by unfold late at h; unfold Ag.step; rw [if_neg h, if_neg k1, if_neg k3, if_neg k5]
theorem step_twice (a : Ag) (l : Ltr) (hn : (a.es.map (·.1)).Nodup) : (a.step l).1.step l = ((a.step l).1, (a.step l).2) := by
  by_cases h : late a l
  · rw [step_late h]; exact step_late h
  · have ns : ∀ b : Ag, b.n = a.n → b.ser = l.se → ¬ late b l := fun b e1 e2 => by
      unfold late at h ⊢
      rw [e1, e2]
      rintro (h1 | h1 | h1)
      · exact h (.inl h1)
      · exact h (.inr (.inl h1))
      · omega
    by_cases k1 : l.kd = 1
    · rw [step_1 h k1]
      refine (step_1 (a := { a with ser := l.se, es := putA l.ve l.ts a.es }) (ns _ rfl rfl) k1).trans ?_
      simp only [putA_twice]
    · by_cases k3 : l.kd = 3
      · cases hg : (getA l.ve a.es).isSome with
        | true => rw [step_3y h k3 hg]; exact step_3y (ns _ rfl rfl) k3 hg
        | false => rw [step_3n h k3 hg]; exact step_3n (ns _ rfl rfl) k3 hg
      · by_cases k5 : l.kd = 5
        · by_cases hv : l.ve = a.cur
          · rw [step_5s h k5 hv]; exact step_5s (ns _ rfl rfl) k5 hv
          · rw [step_5o h k5 hv]
            refine (step_5o (a := { a with ser := l.se, es := delA l.ve a.es }) (ns _ rfl rfl) k5 hv).trans ?_
            simp only [delA_twice hn]
        · rw [step_o h k1 k3 k5]; exact step_o (ns _ rfl rfl) k1 k3 k5
theorem step_n (a : Ag) (l : Ltr) : (a.step l).1.n = a.n := by
  unfold Ag.step
  repeat' split
  all_goals rfl
theorem step_ser (a : Ag) (l : Ltr) (h : ¬ (l.fr ≠ -1 ∨ l.to ≠ a.n ∨ l.se < a.ser)) : (a.step l).1.ser = l.se := by
  unfold Ag.step
  rw [if_neg h]
  repeat' split
  all_goals rfl
theorem ans_cases (k n ve se : Int) : (k = 0 ∧ ansA k n ve se = nilA) ∨ (k ≠ 0 ∧ ansA k n ve se = .p (.d (.sl 6 1 (ansD k n ve se)))) := by
  unfold ansA
  by_cases h : k = 0
  · exact .inl ⟨h, if_pos h⟩
  · exact .inr ⟨h, if_neg h⟩
end Go.Proofs.Ytokibghllpfeaaa
