/- Part 5 of a proof: lemmas beneath the theorem that the last text bears. Conditions: none. -/
import Derived.Test.YtbamjcnhmmgnlaaKPredsAliked
import Derived.Shelf.Small.Bits
import Derived.Lib.ItoaNum
import Derived.Shelf.Spec.SlicesGrow
set_option linter.unusedSimpArgs false
set_option linter.unusedVariables false
namespace Go.Proofs.Ytbamjcnhmmgnlaa
open Go Go.Proofs.Ytbamjcnhmmgnlaa.AL
theorem sound_limits {c : Config} (h : soundC c = 0) : (edgesT c.tp).length ≤ 36 ∧ cnt3 c.tb ≤ 576 := by
  unfold soundC at h
  split at h
  · contradiction
  rename_i ht
  have ht : soundT c.tp = 0 := by simpa using ht
  split at h
  · contradiction
  split at h
  · exact absurd h (by decide)
  rename_i hl
  have hl : c.tb.length = c.tp.length := by simpa using hl
  unfold soundT at ht
  split at ht
  · exact absurd ht (by decide)
  rename_i h6
  split at ht
  · exact absurd ht (by decide)
  rename_i hlens
  have hlens : allF (lensT c.tp) c.tp.length 0 = true := by simpa using hlens
  rw [allF_iff] at hlens
  constructor
  · have key : ∀ n, n ≤ c.tp.length → (edgesTo c.tp n).length ≤ n * 6 := by
      intro n
      induction n with
      | zero => intro _; simp [edgesTo]
      | succ n ih =>
        intro hn
        have h1 := ih (by omega)
        have h2 := edgeRow_len (c.tp.getD n []) n (c.tp.getD n []).length
        have h3 := hlens n (by omega) (by omega)
        unfold lensT at h3
        have h3 := of_decide_eq_true h3
        unfold edgesTo
        simp only [List.length_append]
        omega
    have := key c.tp.length (Nat.le_refl _)
    unfold edgesT
    omega
  · have hf : ∀ i, i < c.tb.length → tabE c i = 0 := by
      have key : ∀ n i, errF (tabE c) n i = 0 → ∀ k, i ≤ k → k < i + n → tabE c k = 0 := by
        intro n
        induction n with
        | zero => intro i _ k h1 h2; omega
        | succ n ih =>
          intro i he k h1 h2
          unfold errF at he
          split at he
          · rename_i h0
            by_cases hk : k = i
            · subst hk; exact h0
            · exact ih (i + 1) he k (by omega) (by omega)
          · rename_i h0; exact absurd he h0
      intro i hi
      exact key _ 0 h i (by omega) (by omega)
    have hs : ∀ i, i < c.tb.length → cnt2 (c.tb.getD i []) ≤ 96 := by
      intro i hi
      have h1 := hf i hi
      unfold tabE soundTab at h1
      split at h1
      · exact absurd h1 (by decide)
      split at h1
      · exact absurd h1 (by decide)
      rename_i h96
      have e : ∀ (t : List (List Rule)) (n : Nat), sumR t n = cnt2 (t.take n) := by
        intro t n
        induction n with
        | zero => simp [sumR, cnt2]
        | succ n ih =>
          unfold sumR
          rw [ih]
          by_cases hn : n < t.length
          · rw [take_succ_getD t n [] hn]; simp [cnt2]
          · rw [List.getD_eq_getElem?_getD, List.getElem?_eq_none (by omega), List.take_of_length_le (by omega), List.take_of_length_le (by omega)]; simp
      rw [e, List.take_length] at h96
      omega
    have key : ∀ b : List (List (List Rule)), (∀ i, i < b.length → cnt2 (b.getD i []) ≤ 96) → cnt3 b ≤ b.length * 96 := by
      intro b
      induction b with
      | nil => intro _; simp [cnt3]
      | cons t b ih =>
        intro hb
        have h0 := hb 0 (by simp)
        have h1 := ih fun i hi => by have := hb (i + 1) (by simpa using hi); simpa using this
        have e : cnt3 (t :: b) = cnt2 t + cnt3 b := by simp [cnt3]
        simp only [List.getD_cons_zero] at h0
        rw [e, List.length_cons, Nat.add_mul]
        omega
    have := key c.tb hs
    omega
theorem Sets_c (c : Config) (v : Int) (hc : c.small) (hv : -9223372036854775808 ≤ v ∧ v < 9223372036854775808) : ACalls Try.prog 24 [.agg (configD c), .d (.v (.int .i64 v))] (· = [.d (.sl 4 (setsV c v).length (rowC (setsV c v))), .d (.v (.int .i64 (predE c v)))]) := by
  unfold setsV
  by_cases h : soundC c = 0
  · have hb := sound_limits h
    by_cases h2 : v < 0 ∨ 255 < v
    · have e : predE c v = 4 := by unfold predE; rw [if_neg (by simpa using h), if_pos h2]
      rw [e, if_neg (by decide)]
      exact Sets_bad c v hc 4 (by decide) (.inr ⟨h, h2, rfl⟩)
    · have e : predE c v = 0 := by unfold predE; rw [if_neg (by simpa using h), if_neg h2]
      rw [e, if_pos rfl]
      exact Sets_good c v hc h (by omega) (by omega) (by omega)
  · have e : predE c v = soundC c := by unfold predE; rw [if_pos h]
    rw [e, if_neg h]
    exact Sets_bad c v hc _ h (.inl rfl)
def befF (x : Cube) (L : List Cube) (s : Cube) : List Cube := if beforeO x s then addC L (beforeV x s) else L
def closeF (S : List Cube) : Nat → Nat → List Cube → List Cube
  | 0, _, L => L
  | f + 1, n, L => if n < L.length ∧ L.length ≤ 500 then closeF S f (n + 1) (S.foldl (befF (L.getD n ⟨0, 0⟩)) L) else L
def asksL (c : Config) (v : Int) : List Cube := closeF (setsL c v) 501 0 (fold3 matchF c.tb [])
def ofE (c : Config) (v : Int) : Int := if predE c v ≠ 0 then predE c v else if 500 < (asksL c v).length then 10 else 0
def ofV (c : Config) (v : Int) : List Cube := if ofE c v = 0 then isort onesK (asksL c v) else []
theorem befF_len (x : Cube) (L : List Cube) (s : Cube) : (befF x L s).length ≤ L.length + 1 := by
  unfold befF; split
  · exact addC_len _ _
  · omega
def ofA (c : Config) (S R : List Cube) (s : {s : Nat × List Cube // closeF S (501 - s.1) s.1 s.2 = R ∧ s.2.length ≤ 100000 ∧ s.1 ≤ 501}) : ASt :=
  ⟨[(9, .p (.d (.v (.int .i64 (s.val.1 : Int))))), (8, .loc 8 0), (6, .p (.d (.sl 4 S.length (rowC S))))],
   [(8, .cells 117 [.loc 601 0]), (601, .cells 127 [.ow 603 s.val.2.length 4 s.val.2.length, .mp 602]), (602, .map [.u64, .u64, .u64, .u64] (seenM s.val.2)), (603, .own 27 4 s.val.2.length s.val.2.length (rowC s.val.2))]⟩
def ofB (c : Config) (S R : List Cube) (n : Nat) (x : Cube) (s : {s : Nat × List Cube // s.1 ≤ S.length ∧ (S.drop s.1).foldl (befF x) s.2 = R ∧ s.2.length ≤ 500 + s.1 ∧ n < s.2.length ∧ s.2.getD n ⟨0, 0⟩ = x}) : ASt :=
  ⟨[(50, .p (.d (.v (.int .i64 (s.val.1 : Int))))), (49, .p (.d (.v (.int .i64 (S.length : Int))))), (48, .p (.d (.sl 4 S.length (rowC S)))), (9, .p (.d (.v (.int .i64 (n : Int))))), (8, .loc 8 0), (6, .p (.d (.sl 4 S.length (rowC S))))],
   [(8, .cells 117 [.loc 601 0]), (601, .cells 127 [.ow 603 s.val.2.length 4 s.val.2.length, .mp 602]), (602, .map [.u64, .u64, .u64, .u64] (seenM s.val.2)), (603, .own 27 4 s.val.2.length s.val.2.length (rowC s.val.2))]⟩
theorem addC_at (L : List Cube) (k : Cube) {n : Nat} (hn : n < L.length) : n < (addC L k).length ∧ (addC L k).getD n ⟨0, 0⟩ = L.getD n ⟨0, 0⟩ := by
  unfold addC
  split
  · exact ⟨hn, rfl⟩
  · refine ⟨by simp; omega, ?_⟩
    rw [List.getD_eq_getElem?_getD, List.getD_eq_getElem?_getD, List.getElem?_append_left hn]
set_option maxRecDepth 100000 in
theorem Of_bad (c : Config) (v : Int) (hc : c.small) (hv : -9223372036854775808 ≤ v ∧ v < 9223372036854775808) (h : predE c v ≠ 0) : ACalls Try.prog 28 [.agg (configD c), .d (.v (.int .i64 v))] (· = [.d (.sl 4 ([] : List Cube).length (rowC [])), .d (.v (.int .i64 (predE c v)))]) := by
  have st := Sets_c c v hc hv
  unfold setsV at st
  rw [if_neg h] at st
  generalize predE c v = e at *
  have q := ine_tt h
  refine q11 Try.func28 rfl (by decide +kernel) (by rw [Try.ntmps28]; simp) ?_; rw [Try.ntmps28]; simp only [frOf]
  (repeat (first | refine j0 ?_ | refine q7 rfl ?_ | refine z7 rfl ?_ | refine x6 ?_ | (refine z5 fun K hK => ?_) | (refine j5 (by kernel_rfl) (by kernel_rfl) fun K hK => ?_) | ((first | refine q6 ?_ | refine z6 ?_ | ((first | refine z3 (hK _ ?_) | refine j4 (hK _ _ (z4 (by kernel_rfl)) ?_)); clear hK K)); (first | show AWP _ _ _ _ _ | ((try simp only [j6]); first | show loopQ _ _ _ _ _ _ | show cutQ _ _ _ _ | show AWP _ _ _ _ _))) | ((first | refine z9 rfl rfl rfl ?_ | refine x9 rfl rfl rfl ?_); simp (maxSteps := 2000000) (disch := omega) only [go_sem, seval, hd, cb, ruleD, configD, spotD, q9, q]; (first | refine ⟨_, st, ?_⟩)) | ((first | refine x7 [8] rfl ?_ | refine j7 [8] rfl ?_); simp (maxSteps := 2000000) (disch := omega) only [go_sem, seval, hd, cb, ruleD, configD, spotD, q9, q]; (repeat (first | refine ⟨by omega, ?_⟩ | refine ⟨keyTy_cube, ?_⟩)))))
  refine awp_slot 4 _ (.p (.d (.sl 4 ([] : List Cube).length (rowC [])))) rfl (le_nil 4 _ _ rfl) ?_
  refine j8 ⟨_, ?_, rfl⟩; rw [Try.results28]; simp (disch := omega) only [ResVars, ResVar, ptrLoc, go_sem, seval, hd, cb, ruleD, configD, spotD, q9, q]
theorem wideK : CmpK Try.prog 62 onesK (fun p q => onesK p - onesK q) where
  call := wide_c
  lt := fun p q => by constructor <;> intro <;> omega
theorem seg_listK (l : List Cube) : seg (fun i => l.getD i ⟨0, 0⟩) 0 l.length = l := by
  apply List.ext_getElem
  · simp [seg_length]
  · intro k h1 h2
    simp [seg, h2]
theorem stab_listK (l : List Cube) (i : Nat) (hi : i < l.length) : rowFK (stab onesK 0 l.length (fun i => l.getD i ⟨0, 0⟩)) i = rowC (isort onesK l) i := by
  unfold rowFK rowC stab
  rw [if_pos ⟨Nat.zero_le _, hi⟩, seg_listK]
  have : i < (isort onesK l).length := by rw [isort_length]; exact hi
  simp [this]
set_option maxRecDepth 100000 in
set_option maxHeartbeats 8000000 in
theorem Of_good (c : Config) (v : Int) (hc : c.small) (hv : -9223372036854775808 ≤ v ∧ v < 9223372036854775808) (h : predE c v = 0) : ACalls Try.prog 28 [.agg (configD c), .d (.v (.int .i64 v))] (· = [.d (.sl 4 (ofV c v).length (rowC (ofV c v))), .d (.v (.int .i64 (ofE c v)))]) := by
  have h0 : soundC c = 0 := by
    unfold predE at h
    split at h
    · contradiction
    · rename_i hh; simpa using hh
  have hb := sound_limits h0
  have st := Sets_c c v hc hv
  have hSl : (setsL c v).length ≤ 1000 := by
    have h1 := foldl_len (stampF c v) (fun L a => addC_len L _) (edgesT c.tp) []
    have h2 := fold3_len setF setF_len c.tb (setsE c v)
    unfold setsL
    unfold setsE at h2 ⊢
    simp at h1; omega
  have hMl : (fold3 matchF c.tb []).length ≤ 1000 := by
    have h2 := fold3_len matchF matchF_len c.tb []
    simp at h2; omega
  have ru := rulesP_c c hc 59 matchF [] (fold3 matchF c.tb []) matchP_c matchF_len (by simp; omega) rfl
  unfold setsV at st
  rw [h, if_pos rfl] at st
  obtain ⟨R, hR⟩ : ∃ x, asksL c v = x := ⟨_, rfl⟩
  have e1 : ofE c v = if 500 < R.length then 10 else 0 := by unfold ofE; rw [hR, if_neg (by simpa using h)]
  have e2 : ofV c v = if 500 < R.length then [] else isort onesK R := by
    unfold ofV; rw [e1, hR]
    split
    · rw [if_neg (by decide)]
    · rw [if_pos rfl]
  unfold asksL at hR
  generalize setsL c v = S at st hSl hR
  generalize fold3 matchF c.tb [] = L0 at ru hMl hR
  unfold lstL lstA at ru
  refine q11 Try.func28 rfl (by decide +kernel) (by rw [Try.ntmps28]; simp) ?_; rw [Try.ntmps28]; simp only [frOf]
  (repeat (first | refine j0 ?_ | refine q7 rfl ?_ | refine z7 rfl ?_ | refine x6 ?_ | (refine z5 fun K hK => ?_) | (refine j5 (by kernel_rfl) (by kernel_rfl) fun K hK => ?_) | ((first | refine q6 ?_ | refine z6 ?_ | ((first | refine z3 (hK _ ?_) | refine j4 (hK _ _ (z4 (by kernel_rfl)) ?_)); clear hK K)); (first | show AWP _ _ _ _ _ | ((try simp only [j6]); first | show loopQ _ _ _ _ _ _ | show cutQ _ _ _ _ | show AWP _ _ _ _ _))) | ((first | refine z9 rfl rfl rfl ?_ | refine x9 rfl rfl rfl ?_); simp (maxSteps := 2000000) (disch := omega) only [go_sem, seval, hd, cb, ruleD, configD, spotD, q9, Option.bind_none, Option.map_none]; (first | refine ⟨_, st, ?_⟩)) | ((first | refine x7 [8] rfl ?_ | refine j7 [8] rfl ?_); simp (maxSteps := 2000000) (disch := omega) only [go_sem, seval, hd, cb, ruleD, configD, spotD, q9, Option.bind_none, Option.map_none]; (repeat (first | refine ⟨by omega, ?_⟩ | refine ⟨keyTy_cube, ?_⟩)))))
  (refine walkS_cons _ (step_mcall [(3, 601), (1, 602)] rfl rfl rfl rfl rfl rfl (fresh_c) rfl (namesOK_of (by repeat (first | exact trivial | refine ⟨rfl, ?_⟩)) (by kernel_rfl))) ?_); simp (maxSteps := 2000000) (disch := omega) only [go_sem, seval, hd, cb, ruleD, configD, spotD, q9, Option.bind_none, Option.map_none]
  (repeat ((fail_if_success (show AWP _ _ (.region 5 _ _) _ _)); first | refine j0 ?_ | refine q7 rfl ?_ | refine z7 rfl ?_ | refine x6 ?_ | (refine z5 fun K hK => ?_) | (refine j5 (by kernel_rfl) (by kernel_rfl) fun K hK => ?_) | ((first | refine q6 ?_ | refine z6 ?_ | ((first | refine z3 (hK _ ?_) | refine j4 (hK _ _ (z4 (by kernel_rfl)) ?_)); clear hK K)); (first | show AWP _ _ _ _ _ | ((try simp only [j6]); first | show loopQ _ _ _ _ _ _ | show cutQ _ _ _ _ | show AWP _ _ _ _ _))) | ((first | refine x7 [8] rfl ?_ | refine j7 [8] rfl ?_); simp (maxSteps := 2000000) (disch := omega) only [go_sem, seval, hd, cb, ruleD, configD, spotD, q9, Option.bind_none, Option.map_none]; (repeat (first | refine ⟨by omega, ?_⟩ | refine ⟨keyTy_cube, ?_⟩)))))
  refine awp_ownCell 601 603 0 4 27 (rowC []) rfl rfl (by omega) (by kernel_rfl) rfl ?_
  refine z5 fun K hK => ?_
  (first | refine walkS_op2 [8] rfl rfl ?_ | refine walkD_op2 [8] rfl rfl ?_ | refine walkS_skip rfl rfl ?_ | refine walkD_skip rfl rfl ?_)
  simp (maxSteps := 2000000) (disch := omega) only [go_sem, seval, hd, cb, ruleD, configD, spotD, q9, Option.bind_none, Option.map_none]
  refine walkS_cons _ (step_loadC [.loc 601 0] rfl ty117 rfl rfl rfl rfl rfl rfl rfl) ?_
  simp (maxSteps := 2000000) (disch := omega) only [go_sem, seval, hd, cb, ruleD, configD, spotD, q9, Option.bind_none, Option.map_none]
  (repeat (first | refine j0 ?_ | refine q7 rfl ?_ | refine z7 rfl ?_ | refine x6 ?_ | (refine z5 fun K hK => ?_) | (refine j5 (by kernel_rfl) (by kernel_rfl) fun K hK => ?_) | ((first | refine q6 ?_ | refine z6 ?_ | ((first | refine z3 (hK _ ?_) | refine j4 (hK _ _ (z4 (by kernel_rfl)) ?_)); clear hK K)); (first | show AWP _ _ _ _ _ | ((try simp only [j6]); first | show loopQ _ _ _ _ _ _ | show cutQ _ _ _ _ | show AWP _ _ _ _ _))) | ((first | refine x7 [8] rfl ?_ | refine j7 [8] rfl ?_); simp (maxSteps := 2000000) (disch := omega) only [go_sem, seval, hd, cb, ruleD, configD, spotD, q9, Option.bind_none, Option.map_none]; (repeat (first | refine ⟨by omega, ?_⟩ | refine ⟨keyTy_cube, ?_⟩)))))
  (refine walkS_cons _ (step_mcall [(1000, 601), (1001, 602), (1002, 603)] rfl rfl rfl rfl rfl rfl (ru) rfl (namesOK_of (by repeat (first | exact trivial | refine ⟨rfl, ?_⟩)) (by kernel_rfl))) ?_); simp (maxSteps := 2000000) (disch := omega) only [go_sem, seval, hd, cb, ruleD, configD, spotD, q9, Option.bind_none, Option.map_none]
  (repeat (first | refine j0 ?_ | refine q7 rfl ?_ | refine z7 rfl ?_ | refine x6 ?_ | (refine z5 fun K hK => ?_) | (refine j5 (by kernel_rfl) (by kernel_rfl) fun K hK => ?_) | ((first | refine q6 ?_ | refine z6 ?_ | ((first | refine z3 (hK _ ?_) | refine j4 (hK _ _ (z4 (by kernel_rfl)) ?_)); clear hK K)); (first | show AWP _ _ _ _ _ | ((try simp only [j6]); first | show loopQ _ _ _ _ _ _ | show cutQ _ _ _ _ | show AWP _ _ _ _ _))) | ((first | refine x7 [8] rfl ?_ | refine j7 [8] rfl ?_); simp (maxSteps := 2000000) (disch := omega) only [go_sem, seval, hd, cb, ruleD, configD, spotD, q9, Option.bind_none, Option.map_none]; (repeat (first | refine ⟨by omega, ?_⟩ | refine ⟨keyTy_cube, ?_⟩)))))
  refine awp_loop (ofA c S R) (fun s => 501 - s.val.1) ⟨(0, L0), hR, by simp only []; omega, by simp only []; omega⟩ ?_ (fun s => ?_)
  · unfold ofA
    refine Weak.list ?_ ?_; (all_goals simp (disch := omega) only [AllF, AllL, q10, z10, j9, exists_eq_left', Option.some.injEq, go_sem, seval, hd, cb, ruleD, configD, spotD, q9, Option.bind_none, Option.map_none]); (all_goals (repeat' (with_reducible apply And.intro))); (all_goals try (first | exact q8 rfl | (refine x10 ?_; omega) | (refine q8 ?_; simp; done)))
  obtain ⟨⟨n, L⟩, h1, h2, h3⟩ := s
  simp only [] at h1 h2 h3
  unfold ofA
  simp only []
  by_cases hn : n < L.length
  · by_cases h5 : L.length ≤ 500
    · obtain ⟨f, hf⟩ : ∃ f, 501 - n = f + 1 := ⟨500 - n, by omega⟩
      have hf2 : 501 - (n + 1) = f := by omega
      rw [hf] at h1
      unfold closeF at h1
      rw [if_pos ⟨hn, h5⟩] at h1
      obtain ⟨x, hx⟩ : ∃ x, L.getD n ⟨0, 0⟩ = x := ⟨_, rfl⟩
      rw [hx] at h1
      obtain ⟨L9, hL9⟩ : ∃ y, S.foldl (befF x) L = y := ⟨_, rfl⟩
      rw [hL9] at h1
      have hl9 : L9.length ≤ 1500 := by
        have := foldl_len (befF x) (befF_len x) S L
        rw [hL9] at this; omega
      (repeat (first | refine j0 ?_ | refine q7 rfl ?_ | refine z7 rfl ?_ | refine x6 ?_ | (refine z5 fun K hK => ?_) | (refine j5 (by kernel_rfl) (by kernel_rfl) fun K hK => ?_) | ((first | refine q6 ?_ | refine z6 ?_ | ((first | refine z3 (hK _ ?_) | refine j4 (hK _ _ (z4 (by kernel_rfl)) ?_)); clear hK K)); (first | show AWP _ _ _ _ _ | ((try simp only [j6]); first | show loopQ _ _ _ _ _ _ | show cutQ _ _ _ _ | show AWP _ _ _ _ _))) | ((first | refine x7 [8] rfl ?_ | refine j7 [8] rfl ?_); simp (maxSteps := 2000000) (disch := omega) only [go_sem, seval, hd, cb, ruleD, configD, spotD, q9]; (repeat (first | refine ⟨by omega, ?_⟩ | refine ⟨keyTy_cube, ?_⟩)))))
      refine awp_loop (ofB c S L9 n x) (fun s => S.length - s.val.1) ⟨(0, L), by omega, by rw [List.drop_zero]; exact hL9, by simp only []; omega, hn, hx⟩ ?_ (fun s => ?_)
      · unfold ofB
        refine Weak.list ?_ ?_; (all_goals simp (disch := omega) only [AllF, AllL, q10, z10, j9, exists_eq_left', Option.some.injEq, go_sem, seval, hd, cb, ruleD, configD, spotD, q9]); (all_goals (repeat' (with_reducible apply And.intro))); (all_goals try (first | exact q8 rfl | (refine x10 ?_; omega) | (refine q8 ?_; simp; done)))
      obtain ⟨⟨j, L2⟩, hj, k1, k2, k3, k4⟩ := s
      simp only [] at hj k1 k2 k3 k4
      unfold ofB
      simp only []
      by_cases hm : j < S.length
      · have r1 := rowC_at S j
        have r2 := rowC_at L2 n
        rw [k4] at r2
        rw [drop_getD S j ⟨0, 0⟩ hm] at k1
        simp only [List.foldl_cons] at k1
        generalize S.getD j ⟨0, 0⟩ = s at r1 k1
        have bf := Before_c x s
        unfold befF at k1
        have ad := add_c L2 (beforeV x s) (by omega)
        have al := addC_len L2 (beforeV x s)
        obtain ⟨at1, at2⟩ := addC_at L2 (beforeV x s) k3
        generalize addC L2 (beforeV x s) = L3 at ad al k1 at1 at2
        generalize beforeV x s = y at bf ad
        unfold lstL lstA at ad
        cases hbo : beforeO x s
        · rw [hbo] at bf k1
          simp only [Bool.false_eq_true, if_false] at k1
          (repeat (first | refine j0 ?_ | refine q7 rfl ?_ | refine z7 rfl ?_ | refine x6 ?_ | (refine z5 fun K hK => ?_) | (refine j5 (by kernel_rfl) (by kernel_rfl) fun K hK => ?_) | ((first | refine q6 ?_ | refine z6 ?_ | ((first | refine z3 (hK _ ?_) | refine j4 (hK _ _ (z4 (by kernel_rfl)) ?_)); clear hK K)); (first | show AWP _ _ _ _ _ | ((try simp only [j6]); first | show loopQ _ _ _ _ _ _ | show cutQ _ _ _ _ | show AWP _ _ _ _ _))) | ((first | refine z9 rfl rfl rfl ?_ | refine x9 rfl rfl rfl ?_); simp (maxSteps := 2000000) (disch := omega) only [go_sem, seval, hd, cb, ruleD, configD, spotD, q9, r1, r2]; (first | refine ⟨_, bf, ?_⟩)) | ((first | refine x7 [8] rfl ?_ | refine j7 [8] rfl ?_); simp (maxSteps := 2000000) (disch := omega) only [go_sem, seval, hd, cb, ruleD, configD, spotD, q9, r1, r2]; (repeat (first | refine ⟨by omega, ?_⟩ | refine ⟨keyTy_cube, ?_⟩)))))
          refine ⟨⟨(j + 1, L2), by simp only []; omega, k1, by simp only []; omega, k3, k4⟩, by simp only []; omega, ?_⟩
          refine Weak.list ?_ ?_; (all_goals simp (disch := omega) only [AllF, AllL, q10, z10, j9, exists_eq_left', Option.some.injEq, go_sem, seval, hd, cb, ruleD, configD, spotD, q9, r1, r2]); (all_goals (repeat' (with_reducible apply And.intro))); (all_goals try (first | exact q8 rfl | (refine x10 ?_; omega) | (refine q8 ?_; simp; done)))
        · rw [hbo] at bf k1
          simp only [if_true] at k1
          (repeat (first | refine j0 ?_ | refine q7 rfl ?_ | refine z7 rfl ?_ | refine x6 ?_ | (refine z5 fun K hK => ?_) | (refine j5 (by kernel_rfl) (by kernel_rfl) fun K hK => ?_) | ((first | refine q6 ?_ | refine z6 ?_ | ((first | refine z3 (hK _ ?_) | refine j4 (hK _ _ (z4 (by kernel_rfl)) ?_)); clear hK K)); (first | show AWP _ _ _ _ _ | ((try simp only [j6]); first | show loopQ _ _ _ _ _ _ | show cutQ _ _ _ _ | show AWP _ _ _ _ _))) | ((first | refine z9 rfl rfl rfl ?_ | refine x9 rfl rfl rfl ?_); simp (maxSteps := 2000000) (disch := omega) only [go_sem, seval, hd, cb, ruleD, configD, spotD, q9, r1, r2]; (first | refine ⟨_, bf, ?_⟩)) | ((first | refine x7 [8] rfl ?_ | refine j7 [8] rfl ?_); simp (maxSteps := 2000000) (disch := omega) only [go_sem, seval, hd, cb, ruleD, configD, spotD, q9, r1, r2]; (repeat (first | refine ⟨by omega, ?_⟩ | refine ⟨keyTy_cube, ?_⟩)))))
          (refine walkS_cons _ (step_mcall [(1000, 601), (1001, 602), (1002, 603)] rfl rfl rfl rfl rfl rfl (ad) rfl (namesOK_of (by repeat (first | exact trivial | refine ⟨rfl, ?_⟩)) (by kernel_rfl))) ?_); simp (maxSteps := 2000000) (disch := omega) only [go_sem, seval, hd, cb, ruleD, configD, spotD, q9, r1, r2]
          (repeat (first | refine j0 ?_ | refine q7 rfl ?_ | refine z7 rfl ?_ | refine x6 ?_ | (refine z5 fun K hK => ?_) | (refine j5 (by kernel_rfl) (by kernel_rfl) fun K hK => ?_) | ((first | refine q6 ?_ | refine z6 ?_ | ((first | refine z3 (hK _ ?_) | refine j4 (hK _ _ (z4 (by kernel_rfl)) ?_)); clear hK K)); (first | show AWP _ _ _ _ _ | ((try simp only [j6]); first | show loopQ _ _ _ _ _ _ | show cutQ _ _ _ _ | show AWP _ _ _ _ _))) | ((first | refine x7 [8] rfl ?_ | refine j7 [8] rfl ?_); simp (maxSteps := 2000000) (disch := omega) only [go_sem, seval, hd, cb, ruleD, configD, spotD, q9, r1, r2]; (repeat (first | refine ⟨by omega, ?_⟩ | refine ⟨keyTy_cube, ?_⟩)))))
          refine ⟨⟨(j + 1, L3), by simp only []; omega, k1, by simp only []; omega, at1, at2.trans k4⟩, by simp only []; omega, ?_⟩
          refine Weak.list ?_ ?_; (all_goals simp (disch := omega) only [AllF, AllL, q10, z10, j9, exists_eq_left', Option.some.injEq, go_sem, seval, hd, cb, ruleD, configD, spotD, q9, r1, r2]); (all_goals (repeat' (with_reducible apply And.intro))); (all_goals try (first | exact q8 rfl | (refine x10 ?_; omega) | (refine q8 ?_; simp; done)))
      · have : j = S.length := by omega
        subst this
        rw [List.drop_length] at k1
        obtain rfl : L2 = L9 := k1
        (repeat (first | refine j0 ?_ | refine q7 rfl ?_ | refine z7 rfl ?_ | refine x6 ?_ | (refine z5 fun K hK => ?_) | (refine j5 (by kernel_rfl) (by kernel_rfl) fun K hK => ?_) | ((first | refine q6 ?_ | refine z6 ?_ | ((first | refine z3 (hK _ ?_) | refine j4 (hK _ _ (z4 (by kernel_rfl)) ?_)); clear hK K)); (first | show AWP _ _ _ _ _ | ((try simp only [j6]); first | show loopQ _ _ _ _ _ _ | show cutQ _ _ _ _ | show AWP _ _ _ _ _))) | ((first | refine x7 [8] rfl ?_ | refine j7 [8] rfl ?_); simp (maxSteps := 2000000) (disch := omega) only [go_sem, seval, hd, cb, ruleD, configD, spotD, q9]; (repeat (first | refine ⟨by omega, ?_⟩ | refine ⟨keyTy_cube, ?_⟩)))))
        refine ⟨⟨(n + 1, L2), by simp only []; rw [hf2]; exact h1, by simp only []; omega, by simp only []; omega⟩, by simp only []; omega, ?_⟩
        refine Weak.list ?_ ?_; (all_goals simp (disch := omega) only [AllF, AllL, q10, z10, j9, exists_eq_left', Option.some.injEq, go_sem, seval, hd, cb, ruleD, configD, spotD, q9]); (all_goals (repeat' (with_reducible apply And.intro))); (all_goals try (first | exact q8 rfl | (refine x10 ?_; omega) | (refine q8 ?_; simp; done)))
    · have hR2 : L = R := by
        rw [← h1]
        cases 501 - n with
        | zero => rfl
        | succ f => unfold closeF; rw [if_neg (by omega)]
      subst hR2
      rw [e1, e2, if_pos (by omega), if_pos (by omega)]
      (repeat (first | refine j0 ?_ | refine q7 rfl ?_ | refine z7 rfl ?_ | refine x6 ?_ | (refine z5 fun K hK => ?_) | (refine j5 (by kernel_rfl) (by kernel_rfl) fun K hK => ?_) | ((first | refine q6 ?_ | refine z6 ?_ | ((first | refine z3 (hK _ ?_) | refine j4 (hK _ _ (z4 (by kernel_rfl)) ?_)); clear hK K)); (first | show AWP _ _ _ _ _ | ((try simp only [j6]); first | show loopQ _ _ _ _ _ _ | show cutQ _ _ _ _ | show AWP _ _ _ _ _))) | ((first | refine x7 [8] rfl ?_ | refine j7 [8] rfl ?_); simp (maxSteps := 2000000) (disch := omega) only [go_sem, seval, hd, cb, ruleD, configD, spotD, q9]; (repeat (first | refine ⟨by omega, ?_⟩ | refine ⟨keyTy_cube, ?_⟩)))))
      refine awp_slot 4 _ (.p (.d (.sl 4 ([] : List Cube).length (rowC [])))) rfl (le_nil 4 _ _ rfl) ?_
      refine j8 ⟨_, ?_, rfl⟩; rw [Try.results28]; simp (disch := omega) only [ResVars, ResVar, ptrLoc, go_sem, seval, hd, cb, ruleD, configD, spotD, q9]
  · have hR2 : L = R := by
      rw [← h1]
      cases 501 - n with
      | zero => rfl
      | succ f => unfold closeF; rw [if_neg (by omega)]
    subst hR2
    by_cases h5 : 500 < L.length
    · rw [e1, e2, if_pos h5, if_pos h5]
      (repeat (first | refine j0 ?_ | refine q7 rfl ?_ | refine z7 rfl ?_ | refine x6 ?_ | (refine z5 fun K hK => ?_) | (refine j5 (by kernel_rfl) (by kernel_rfl) fun K hK => ?_) | ((first | refine q6 ?_ | refine z6 ?_ | ((first | refine z3 (hK _ ?_) | refine j4 (hK _ _ (z4 (by kernel_rfl)) ?_)); clear hK K)); (first | show AWP _ _ _ _ _ | ((try simp only [j6]); first | show loopQ _ _ _ _ _ _ | show cutQ _ _ _ _ | show AWP _ _ _ _ _))) | ((first | refine x7 [8] rfl ?_ | refine j7 [8] rfl ?_); simp (maxSteps := 2000000) (disch := omega) only [go_sem, seval, hd, cb, ruleD, configD, spotD, q9]; (repeat (first | refine ⟨by omega, ?_⟩ | refine ⟨keyTy_cube, ?_⟩)))))
      refine awp_slot 4 _ (.p (.d (.sl 4 ([] : List Cube).length (rowC [])))) rfl (le_nil 4 _ _ rfl) ?_
      refine j8 ⟨_, ?_, rfl⟩; rw [Try.results28]; simp (disch := omega) only [ResVars, ResVar, ptrLoc, go_sem, seval, hd, cb, ruleD, configD, spotD, q9]
    · rw [e1, e2, if_neg h5, if_neg h5]
      have so := SortStable_cK wideK (fun i => L.getD i ⟨0, 0⟩) L.length L.length (by omega)
      have sl := stab_listK L
      have sn := isort_length (key := onesK) L
      have cp := Clip_c (isort onesK L).length (rowC (isort onesK L)) (by omega)
      rw [sn] at cp ⊢
      (repeat (first | refine j0 ?_ | refine q7 rfl ?_ | refine z7 rfl ?_ | refine x6 ?_ | (refine z5 fun K hK => ?_) | (refine j5 (by kernel_rfl) (by kernel_rfl) fun K hK => ?_) | ((first | refine q6 ?_ | refine z6 ?_ | ((first | refine z3 (hK _ ?_) | refine j4 (hK _ _ (z4 (by kernel_rfl)) ?_)); clear hK K)); (first | show AWP _ _ _ _ _ | ((try simp only [j6]); first | show loopQ _ _ _ _ _ _ | show cutQ _ _ _ _ | show AWP _ _ _ _ _))) | ((first | refine x7 [8] rfl ?_ | refine j7 [8] rfl ?_); simp (maxSteps := 2000000) (disch := omega) only [go_sem, seval, hd, cb, ruleD, configD, spotD, q9, look_dropL]; (repeat (first | refine ⟨by omega, ?_⟩ | refine ⟨keyTy_cube, ?_⟩)))))
      (refine walkS_cons _ (step_mcall [(1000, 603)] rfl rfl rfl rfl rfl rfl (so) rfl (namesOK_of (by repeat (first | exact trivial | refine ⟨rfl, ?_⟩)) (by kernel_rfl))) ?_); simp (maxSteps := 2000000) (disch := omega) only [go_sem, seval, hd, cb, ruleD, configD, spotD, q9, look_dropL]
      (repeat ((fail_if_success (show AWP _ _ (.region 19 _ _) _ _)); first | refine j0 ?_ | refine q7 rfl ?_ | refine z7 rfl ?_ | refine x6 ?_ | (refine z5 fun K hK => ?_) | (refine j5 (by kernel_rfl) (by kernel_rfl) fun K hK => ?_) | ((first | refine q6 ?_ | refine z6 ?_ | ((first | refine z3 (hK _ ?_) | refine j4 (hK _ _ (z4 (by kernel_rfl)) ?_)); clear hK K)); (first | show AWP _ _ _ _ _ | ((try simp only [j6]); first | show loopQ _ _ _ _ _ _ | show cutQ _ _ _ _ | show AWP _ _ _ _ _))) | ((first | refine x7 [8] rfl ?_ | refine j7 [8] rfl ?_); simp (maxSteps := 2000000) (disch := omega) only [go_sem, seval, hd, cb, ruleD, configD, spotD, q9, look_dropL]; (repeat (first | refine ⟨by omega, ?_⟩ | refine ⟨keyTy_cube, ?_⟩)))))
      refine awp_ownf 603 (rowC (isort onesK L)) rfl sl ?_
      (repeat (first | refine j0 ?_ | refine q7 rfl ?_ | refine z7 rfl ?_ | refine x6 ?_ | (refine z5 fun K hK => ?_) | (refine j5 (by kernel_rfl) (by kernel_rfl) fun K hK => ?_) | ((first | refine q6 ?_ | refine z6 ?_ | ((first | refine z3 (hK _ ?_) | refine j4 (hK _ _ (z4 (by kernel_rfl)) ?_)); clear hK K)); (first | show AWP _ _ _ _ _ | ((try simp only [j6]); first | show loopQ _ _ _ _ _ _ | show cutQ _ _ _ _ | show AWP _ _ _ _ _))) | ((first | refine x7 [8] rfl ?_ | refine j7 [8] rfl ?_); simp (maxSteps := 2000000) (disch := omega) only [go_sem, seval, hd, cb, ruleD, configD, spotD, q9, look_dropL]; (repeat (first | refine ⟨by omega, ?_⟩ | refine ⟨keyTy_cube, ?_⟩)))))
      refine walkS_weak (Weak.freeze _ 90 603 L.length 4 L.length 27 (rowC (isort onesK L)) rfl rfl) ?_
      simp (maxSteps := 2000000) (disch := omega) only [go_sem, seval, hd, cb, ruleD, configD, spotD, q9, look_dropL]
      (repeat (first | refine j0 ?_ | refine q7 rfl ?_ | refine z7 rfl ?_ | refine x6 ?_ | (refine z5 fun K hK => ?_) | (refine j5 (by kernel_rfl) (by kernel_rfl) fun K hK => ?_) | ((first | refine q6 ?_ | refine z6 ?_ | ((first | refine z3 (hK _ ?_) | refine j4 (hK _ _ (z4 (by kernel_rfl)) ?_)); clear hK K)); (first | show AWP _ _ _ _ _ | ((try simp only [j6]); first | show loopQ _ _ _ _ _ _ | show cutQ _ _ _ _ | show AWP _ _ _ _ _))) | ((first | refine z9 rfl rfl rfl ?_ | refine x9 rfl rfl rfl ?_); simp (maxSteps := 2000000) (disch := omega) only [go_sem, seval, hd, cb, ruleD, configD, spotD, q9, look_dropL]; (first | refine ⟨_, cp, ?_⟩)) | ((first | refine x7 [8] rfl ?_ | refine j7 [8] rfl ?_); simp (maxSteps := 2000000) (disch := omega) only [go_sem, seval, hd, cb, ruleD, configD, spotD, q9, look_dropL]; (repeat (first | refine ⟨by omega, ?_⟩ | refine ⟨keyTy_cube, ?_⟩)))))
      refine j8 ⟨_, ?_, rfl⟩; rw [Try.results28]; simp (disch := omega) only [ResVars, ResVar, ptrLoc, go_sem, seval, hd, cb, ruleD, configD, spotD, q9, look_dropL]
end Go.Proofs.Ytbamjcnhmmgnlaa
set_option linter.unusedSimpArgs false
set_option linter.unusedVariables false
namespace Go.Proofs.Ytbamjcnhmmgnlaa
open Go.Proofs.Ytbamjcnhmmgnlaa.AL
def stB1 (x : BitVec 128) (i j : Nat) : Bool := if 88 ≤ j ∧ j < i then false else x.getLsbD j
def stB2 (x : BitVec 128) (T i j : Nat) : Bool := if 88 ≤ j then decide (j < i) && T.testBit (j - 88) else x.getLsbD j
def stB3 (x : BitVec 128) (T V i j : Nat) : Bool := if j < 88 then x.getLsbD j else if j < 112 then T.testBit (j - 88) else decide (j < i) && V.testBit (j - 112)
def stampR (x : BitVec 128) (T V : Nat) : BitVec 128 := ofBits (stB3 x T V 120)
theorem tmod_bit (m : Nat) : (((m : Nat) : Int).tmod 2 == 1) = m.testBit 0 := by
  rw [Nat.testBit_zero, Int.tmod_eq_emod_of_nonneg (by omega), Bool.eq_iff_iff, beq_iff_eq, decide_eq_true_eq]
  omega
theorem tdiv_two (m : Nat) : ((m : Nat) : Int).tdiv 2 = ((m / 2 : Nat) : Int) := by
  rw [Int.tdiv_eq_ediv_of_nonneg (by omega)]; omega
theorem testBit_div (N k : Nat) : (N / 2 ^ k).testBit 0 = N.testBit k := by
  rw [← Nat.shiftRight_eq_div_pow, Nat.testBit_shiftRight, Nat.add_zero]
theorem div_next (N k : Nat) : N / 2 ^ k / 2 = N / 2 ^ (k + 1) := by
  rw [Nat.div_div_eq_div_mul, Nat.pow_succ]
def stI1 (x : BitVec 128) (T V : Nat) (s : {i : Nat // 88 ≤ i ∧ i ≤ 128}) : ASt :=
  ⟨[(10, .p (.d (.v (.int .i64 (s.val : Int))))), (9, .p (.d (.v (.int .i64 (V : Int))))), (8, .p (.d (.v (.int .i64 (T : Int))))), (7, .loc 7 0), (6, .loc 6 0)],
   [(7, .arr 99 128 fun j => .v (.bool (stB1 x s.val j))), (6, .cells 25 [.p (.d (.v (.int .u64 0))), .p (.d (.v (.int .u64 0)))])]⟩
def stI2 (x : BitVec 128) (T V : Nat) (s : {s : Nat × Nat // 88 ≤ s.1 ∧ s.1 ≤ 112 ∧ s.2 = T / 2 ^ (s.1 - 88)}) : ASt :=
  ⟨[(11, .p (.d (.v (.int .i64 (s.val.1 : Int))))), (9, .p (.d (.v (.int .i64 (V : Int))))), (8, .p (.d (.v (.int .i64 (s.val.2 : Int))))), (7, .loc 7 0), (6, .loc 6 0)],
   [(7, .arr 99 128 fun j => .v (.bool (stB2 x T s.val.1 j))), (6, .cells 25 [.p (.d (.v (.int .u64 0))), .p (.d (.v (.int .u64 0)))])]⟩
def stI3 (x : BitVec 128) (T V : Nat) (s : {s : Nat × Nat // 112 ≤ s.1 ∧ s.1 ≤ 120 ∧ s.2 = V / 2 ^ (s.1 - 112)}) : ASt :=
  ⟨[(12, .p (.d (.v (.int .i64 (s.val.1 : Int))))), (9, .p (.d (.v (.int .i64 (s.val.2 : Int))))), (7, .loc 7 0), (6, .loc 6 0)],
   [(7, .arr 99 128 fun j => .v (.bool (stB3 x T V s.val.1 j))), (6, .cells 25 [.p (.d (.v (.int .u64 0))), .p (.d (.v (.int .u64 0)))])]⟩
set_option maxRecDepth 100000 in
set_option maxHeartbeats 2000000 in
theorem StampR_c (x : BitVec 128) (T V : Nat) (ht : T < 1000000) (hv : V < 1000000) : ACalls Try.prog 65 [.agg (hd x), .d (.v (.int .i64 (T : Int))), .d (.v (.int .i64 (V : Int)))] (· = [.agg (hd (stampR x (T + 1) V))]) := by
  have c1 := Bits_c x
  have c2 := Head_c (stB3 x (T + 1) V 120)
  rw [show ofBits (stB3 x (T + 1) V 120) = stampR x (T + 1) V from rfl] at c2
  simp only [hd] at c1 c2
  have e1 : ((T : Int) + 1) = ((T + 1 : Nat) : Int) := by omega
  refine q11 Try.func65 rfl (by decide +kernel) (by rw [Try.ntmps65]; simp) ?_; rw [Try.ntmps65]; simp only [frOf]
  (repeat (first | refine j0 ?_ | refine q7 rfl ?_ | refine z7 rfl ?_ | refine x6 ?_ | (refine z5 fun K hK => ?_) | (refine j5 (by kernel_rfl) (by kernel_rfl) fun K hK => ?_) | ((first | refine q6 ?_ | refine z6 ?_ | ((first | refine z3 (hK _ ?_) | refine j4 (hK _ _ (z4 (by kernel_rfl)) ?_)); clear hK K)); (first | show AWP _ _ _ _ _ | ((try simp only [j6]); first | show loopQ _ _ _ _ _ _ | show cutQ _ _ _ _ | show AWP _ _ _ _ _))) | ((first | refine z9 rfl rfl rfl ?_ | refine x9 rfl rfl rfl ?_); simp (maxSteps := 2000000) (disch := omega) only [go_sem, seval, hd, e1]; (first | refine ⟨_, c1, ?_⟩)) | ((first | refine x7 [6, 7] rfl ?_ | refine j7 [6, 7] rfl ?_); simp (maxSteps := 2000000) (disch := omega) only [go_sem, seval, hd, e1]; (repeat (first | refine ⟨by omega, ?_⟩ | refine ⟨True.intro, ?_⟩)))))
  generalize hN : T + 1 = N at c2
  have hNb : N ≤ 1000000 := by omega
  refine awp_loop (stI1 x N V) (fun s => 128 - s.val) ⟨88, by omega, by omega⟩ ?_ (fun s => ?_)
  · unfold stI1
    refine Weak.list ?_ ?_; (all_goals simp (disch := omega) only [AllF, AllL, q10, z10, j9, exists_eq_left', Option.some.injEq, go_sem, seval, hd]); (all_goals (repeat' (with_reducible apply And.intro))); (all_goals try (first | exact q8 rfl | (refine x10 ?_; omega) | (refine q8 ?_; simp; done)))
    refine lle_arr (fun j hj => ?_)
    unfold stB1
    rw [if_neg (by omega)]
  obtain ⟨i, h1, h2⟩ := s
  unfold stI1
  simp only [] at h1 h2 ⊢
  by_cases h : i < 128
  · (repeat (first | refine j0 ?_ | refine q7 rfl ?_ | refine z7 rfl ?_ | refine x6 ?_ | (refine z5 fun K hK => ?_) | (refine j5 (by kernel_rfl) (by kernel_rfl) fun K hK => ?_) | ((first | refine q6 ?_ | refine z6 ?_ | ((first | refine z3 (hK _ ?_) | refine j4 (hK _ _ (z4 (by kernel_rfl)) ?_)); clear hK K)); (first | show AWP _ _ _ _ _ | ((try simp only [j6]); first | show loopQ _ _ _ _ _ _ | show cutQ _ _ _ _ | show AWP _ _ _ _ _))) | ((first | refine x7 [6, 7] rfl ?_ | refine j7 [6, 7] rfl ?_); simp (maxSteps := 2000000) (disch := omega) only [go_sem, seval, hd]; (repeat (first | refine ⟨by omega, ?_⟩ | refine ⟨True.intro, ?_⟩)))))
    refine ⟨⟨i + 1, by omega, by omega⟩, by simp only []; omega, ?_⟩
    refine Weak.list ?_ ?_; (all_goals simp (disch := omega) only [AllF, AllL, q10, z10, j9, exists_eq_left', Option.some.injEq, go_sem, seval, hd]); (all_goals (repeat' (with_reducible apply And.intro))); (all_goals try (first | exact q8 rfl | (refine x10 ?_; omega) | (refine q8 ?_; simp; done)))
    refine lle_arr (fun j hj => ?_)
    unfold stB1
    by_cases hj : j = i
    · subst hj; rw [if_pos rfl, if_pos (by omega)]
    · rw [if_neg hj]
      by_cases hk : 88 ≤ j ∧ j < i
      · rw [if_pos hk, if_pos (by omega)]
      · rw [if_neg hk, if_neg (by omega)]
  have : i = 128 := by omega
  subst this
  (repeat (first | refine j0 ?_ | refine q7 rfl ?_ | refine z7 rfl ?_ | refine x6 ?_ | (refine z5 fun K hK => ?_) | (refine j5 (by kernel_rfl) (by kernel_rfl) fun K hK => ?_) | ((first | refine q6 ?_ | refine z6 ?_ | ((first | refine z3 (hK _ ?_) | refine j4 (hK _ _ (z4 (by kernel_rfl)) ?_)); clear hK K)); (first | show AWP _ _ _ _ _ | ((try simp only [j6]); first | show loopQ _ _ _ _ _ _ | show cutQ _ _ _ _ | show AWP _ _ _ _ _))) | ((first | refine x7 [6, 7] rfl ?_ | refine j7 [6, 7] rfl ?_); simp (maxSteps := 2000000) (disch := omega) only [go_sem, seval, hd]; (repeat (first | refine ⟨by omega, ?_⟩ | refine ⟨True.intro, ?_⟩)))))
  refine awp_loop (stI2 x N V) (fun s => 112 - s.val.1) ⟨(88, N), by simp⟩ ?_ (fun s => ?_)
  · unfold stI2
    refine Weak.list ?_ ?_; (all_goals simp (disch := omega) only [AllF, AllL, q10, z10, j9, exists_eq_left', Option.some.injEq, go_sem, seval, hd]); (all_goals (repeat' (with_reducible apply And.intro))); (all_goals try (first | exact q8 rfl | (refine x10 ?_; omega) | (refine q8 ?_; simp; done)))
    refine lle_arr (fun j hj => ?_)
    unfold stB1 stB2
    by_cases hk : 88 ≤ j
    · rw [if_pos (by omega), if_pos hk, decide_eq_false (by omega)]; rfl
    · rw [if_neg (by omega), if_neg hk]
  obtain ⟨⟨i, m⟩, h1, h2, h3⟩ := s
  unfold stI2
  simp only [] at h1 h2 h3 ⊢
  have hm : m ≤ N := by rw [h3]; exact Nat.div_le_self _ _
  by_cases h : i < 112
  · have r1 := tmod_bit m
    have r2 := tdiv_two m
    have r3 : m / 2 = N / 2 ^ (i + 1 - 88) := by rw [h3, div_next]; congr 2; omega
    rw [h3, testBit_div, ← h3] at r1
    (repeat (first | refine j0 ?_ | refine q7 rfl ?_ | refine z7 rfl ?_ | refine x6 ?_ | (refine z5 fun K hK => ?_) | (refine j5 (by kernel_rfl) (by kernel_rfl) fun K hK => ?_) | ((first | refine q6 ?_ | refine z6 ?_ | ((first | refine z3 (hK _ ?_) | refine j4 (hK _ _ (z4 (by kernel_rfl)) ?_)); clear hK K)); (first | show AWP _ _ _ _ _ | ((try simp only [j6]); first | show loopQ _ _ _ _ _ _ | show cutQ _ _ _ _ | show AWP _ _ _ _ _))) | ((first | refine x7 [6, 7] rfl ?_ | refine j7 [6, 7] rfl ?_); simp (maxSteps := 2000000) (disch := omega) only [go_sem, seval, hd, r1, r2]; (repeat (first | refine ⟨by omega, ?_⟩ | refine ⟨True.intro, ?_⟩)))))
    refine ⟨⟨(i + 1, m / 2), by omega, by simp only []; omega, r3⟩, by simp only []; omega, ?_⟩
    refine Weak.list ?_ ?_; (all_goals simp (disch := omega) only [AllF, AllL, q10, z10, j9, exists_eq_left', Option.some.injEq, go_sem, seval, hd]); (all_goals (repeat' (with_reducible apply And.intro))); (all_goals try (first | exact q8 rfl | (refine x10 ?_; omega) | (refine q8 ?_; simp; done)))
    refine lle_arr (fun j hj => ?_)
    unfold stB2
    by_cases hj : j = i
    · subst hj; rw [if_pos rfl, if_pos (by omega), decide_eq_true (by omega)]; simp
    · rw [if_neg hj]
      by_cases hk : 88 ≤ j
      · rw [if_pos hk, if_pos hk]
        by_cases hl : j < i
        · rw [decide_eq_true hl, decide_eq_true (by omega)]
        · rw [decide_eq_false hl, decide_eq_false (by omega)]
      · rw [if_neg hk, if_neg hk]
  have : i = 112 := by omega
  subst this
  (repeat (first | refine j0 ?_ | refine q7 rfl ?_ | refine z7 rfl ?_ | refine x6 ?_ | (refine z5 fun K hK => ?_) | (refine j5 (by kernel_rfl) (by kernel_rfl) fun K hK => ?_) | ((first | refine q6 ?_ | refine z6 ?_ | ((first | refine z3 (hK _ ?_) | refine j4 (hK _ _ (z4 (by kernel_rfl)) ?_)); clear hK K)); (first | show AWP _ _ _ _ _ | ((try simp only [j6]); first | show loopQ _ _ _ _ _ _ | show cutQ _ _ _ _ | show AWP _ _ _ _ _))) | ((first | refine x7 [6, 7] rfl ?_ | refine j7 [6, 7] rfl ?_); simp (maxSteps := 2000000) (disch := omega) only [go_sem, seval, hd]; (repeat (first | refine ⟨by omega, ?_⟩ | refine ⟨True.intro, ?_⟩)))))
  refine awp_loop (stI3 x N V) (fun s => 120 - s.val.1) ⟨(112, V), by simp⟩ ?_ (fun s => ?_)
  · unfold stI3
    refine Weak.list ?_ ?_; (all_goals simp (disch := omega) only [AllF, AllL, q10, z10, j9, exists_eq_left', Option.some.injEq, go_sem, seval, hd]); (all_goals (repeat' (with_reducible apply And.intro))); (all_goals try (first | exact q8 rfl | (refine x10 ?_; omega) | (refine q8 ?_; simp; done)))
    refine lle_arr (fun j hj => ?_)
    unfold stB2 stB3
    by_cases hk : j < 88
    · rw [if_neg (by omega), if_pos hk]
    · rw [if_pos (by omega), if_neg hk]
      by_cases hl : j < 112
      · rw [if_pos hl, decide_eq_true hl]; simp
      · rw [if_neg hl, decide_eq_false hl]; simp
  obtain ⟨⟨i, m⟩, h1, h2, h3⟩ := s
  unfold stI3
  simp only [] at h1 h2 h3 ⊢
  have hm : m ≤ V := by rw [h3]; exact Nat.div_le_self _ _
  by_cases h : i < 120
  · have r1 := tmod_bit m
    have r2 := tdiv_two m
    have r3 : m / 2 = V / 2 ^ (i + 1 - 112) := by rw [h3, div_next]; congr 2; omega
    rw [h3, testBit_div, ← h3] at r1
    (repeat (first | refine j0 ?_ | refine q7 rfl ?_ | refine z7 rfl ?_ | refine x6 ?_ | (refine z5 fun K hK => ?_) | (refine j5 (by kernel_rfl) (by kernel_rfl) fun K hK => ?_) | ((first | refine q6 ?_ | refine z6 ?_ | ((first | refine z3 (hK _ ?_) | refine j4 (hK _ _ (z4 (by kernel_rfl)) ?_)); clear hK K)); (first | show AWP _ _ _ _ _ | ((try simp only [j6]); first | show loopQ _ _ _ _ _ _ | show cutQ _ _ _ _ | show AWP _ _ _ _ _))) | ((first | refine x7 [6, 7] rfl ?_ | refine j7 [6, 7] rfl ?_); simp (maxSteps := 2000000) (disch := omega) only [go_sem, seval, hd, r1, r2]; (repeat (first | refine ⟨by omega, ?_⟩ | refine ⟨True.intro, ?_⟩)))))
    refine ⟨⟨(i + 1, m / 2), by omega, by simp only []; omega, r3⟩, by simp only []; omega, ?_⟩
    refine Weak.list ?_ ?_; (all_goals simp (disch := omega) only [AllF, AllL, q10, z10, j9, exists_eq_left', Option.some.injEq, go_sem, seval, hd]); (all_goals (repeat' (with_reducible apply And.intro))); (all_goals try (first | exact q8 rfl | (refine x10 ?_; omega) | (refine q8 ?_; simp; done)))
    refine lle_arr (fun j hj => ?_)
    unfold stB3
    by_cases hj : j = i
    · subst hj; rw [if_pos rfl, if_neg (by omega), if_neg (by omega), decide_eq_true (by omega)]; simp
    · rw [if_neg hj]
      by_cases hk : j < 88
      · rw [if_pos hk, if_pos hk]
      · rw [if_neg hk, if_neg hk]
        by_cases hl : j < 112
        · rw [if_pos hl, if_pos hl]
        · rw [if_neg hl, if_neg hl]
          by_cases hl : j < i
          · rw [decide_eq_true hl, decide_eq_true (by omega)]
          · rw [decide_eq_false hl, decide_eq_false (by omega)]
  have : i = 120 := by omega
  subst this
  (repeat (first | refine j0 ?_ | refine q7 rfl ?_ | refine z7 rfl ?_ | refine x6 ?_ | (refine z5 fun K hK => ?_) | (refine j5 (by kernel_rfl) (by kernel_rfl) fun K hK => ?_) | ((first | refine q6 ?_ | refine z6 ?_ | ((first | refine z3 (hK _ ?_) | refine j4 (hK _ _ (z4 (by kernel_rfl)) ?_)); clear hK K)); (first | show AWP _ _ _ _ _ | ((try simp only [j6]); first | show loopQ _ _ _ _ _ _ | show cutQ _ _ _ _ | show AWP _ _ _ _ _))) | ((first | refine z9 rfl rfl rfl ?_ | refine x9 rfl rfl rfl ?_); simp (maxSteps := 2000000) (disch := omega) only [go_sem, seval, hd]; (first | refine ⟨_, c2, ?_⟩)) | ((first | refine x7 [6, 7] rfl ?_ | refine j7 [6, 7] rfl ?_); simp (maxSteps := 2000000) (disch := omega) only [go_sem, seval, hd]; (repeat (first | refine ⟨by omega, ?_⟩ | refine ⟨True.intro, ?_⟩)))))
  refine j8 ⟨_, ?_, rfl⟩; rw [Try.results65]; simp (disch := omega) only [ResVars, ResVar, ptrLoc, go_sem, seval, hd]
theorem wordOf_get (n : Nat) (i : Nat) : (wordOf (n : Int)).getLsbD i = (decide (i < 64) && n.testBit i) := by
  unfold wordOf
  rw [BitVec.getLsbD_ofNat, Int.toNat_natCast]
theorem testBit_big {n i b : Nat} (h : n < 2 ^ b) (hi : b ≤ i) : n.testBit i = false :=
  Nat.testBit_lt_two_pow (Nat.lt_of_lt_of_le h (Nat.pow_le_pow_right (by decide) hi))
theorem putB_bit (x : BitVec 128) (a b : Nat) (v : BitVec 64) (j : Nat) (hj : j < 128) :
    (putB x a b v).getLsbD j = ((x.getLsbD j && !(decide (a ≤ j) && decide (j < a + b))) || (decide (a ≤ j) && v.getLsbD (j - a))) := by
  unfold putB
  rw [BitVec.getLsbD_or, BitVec.getLsbD_and, BitVec.getLsbD_not, BitVec.getLsbD_shiftLeft, BitVec.getLsbD_shiftLeft, ones_bit _ _ (by omega), BitVec.getLsbD_setWidth]
  simp only [hj, decide_true, Bool.true_and, show j - a < 128 by omega]
  by_cases h : j < a
  · simp [h, show ¬ a ≤ j by omega]
  · simp only [h, decide_false, Bool.not_false, Bool.true_and, show a ≤ j by omega, decide_true]
    by_cases hb : j - a < b
    · simp [hb, show j < a + b by omega]
    · simp [hb, show ¬ j < a + b by omega]
theorem stamp_eq (h : BitVec 128) (tn v : Nat) (ht : tn + 1 < 2 ^ 24) (hv : v < 2 ^ 8) : setH h (stampV (tn : Int) (v : Int)) = stampR h (tn + 1) v := by
  apply BitVec.eq_of_getLsbD_eq
  intro j hj
  unfold stampR
  rw [ofBits_bit _ _ hj]
  unfold setH stampV mkC stB3
  simp only []
  have hc : (ones 40 <<< 88).getLsbD j = decide (88 ≤ j) := by
    rw [BitVec.getLsbD_shiftLeft, ones_bit _ _ (by omega), decide_eq_true hj, Bool.true_and]
    by_cases hk : j < 88
    · simp [hk, show ¬ 88 ≤ j by omega]
    · simp [hk, show 88 ≤ j by omega, show j - 88 < 40 by omega]
  rw [BitVec.getLsbD_or, BitVec.getLsbD_and, BitVec.getLsbD_not, BitVec.getLsbD_and, BitVec.getLsbD_and, hc, putB_bit _ _ _ _ _ hj, putB_bit _ _ _ _ _ hj]
  rw [show ((tn : Int) + 1) = ((tn + 1 : Nat) : Int) by omega, wordOf_get, wordOf_get]
  by_cases h1 : j < 88
  · simp [h1, show ¬ 88 ≤ j by omega, show ¬ 112 ≤ j by omega, hj]
  · by_cases h2 : j < 112
    · simp [h1, h2, show 88 ≤ j by omega, show ¬ 112 ≤ j by omega, hj, show j - 88 < 64 by omega]
    · by_cases h3 : j < 120
      · simp [h1, h2, h3, show 88 ≤ j by omega, show 112 ≤ j by omega, hj, show j - 112 < 64 by omega]
      · have e1 : (tn + 1).testBit (j - 88) = false := testBit_big ht (by omega)
        have e2 : v.testBit (j - 112) = false := testBit_big hv (by omega)
        simp [h1, h2, h3, show 88 ≤ j by omega, show 112 ≤ j by omega, hj, e1, e2]
end Go.Proofs.Ytbamjcnhmmgnlaa
set_option linter.unusedSimpArgs false
set_option linter.unusedVariables false
namespace Go.Proofs.Ytbamjcnhmmgnlaa
open Go Go.Proofs.Ytbamjcnhmmgnlaa.AL
def rulesA (b : List (List (List Rule))) : List Rule := (b.map List.flatten).flatten
theorem fold3_flat (f : List Cube → Rule → List Cube) : ∀ (b : List (List (List Rule))) (L : List Cube), fold3 f b L = (rulesA b).foldl f L
  | [], L => rfl
  | t :: b, L => by
    have e : rulesA (t :: b) = t.flatten ++ rulesA b := by simp [rulesA]
    have h2 : ∀ (t : List (List Rule)) (L : List Cube), fold2 f t L = t.flatten.foldl f L := by
      intro t
      induction t with
      | nil => intro L; rfl
      | cons l t ih => intro L; rw [List.flatten_cons, List.foldl_append, ← ih]; rfl
    rw [e, List.foldl_append, ← h2, ← fold3_flat f b]; rfl
end Go.Proofs.Ytbamjcnhmmgnlaa
set_option linter.unusedSimpArgs false
set_option linter.unusedVariables false
namespace Go.Proofs.Ytbamjcnhmmgnlaa
open Go Go.Proofs.Ytbamjcnhmmgnlaa.AL
theorem predE_zero {c : Config} {v : Int} (h : predE c v = 0) : soundC c = 0 ∧ 0 ≤ v ∧ v ≤ 255 := by
  unfold predE at h
  split at h
  · contradiction
  · rename_i hh
    split at h
    · exact absurd h (by decide)
    · exact ⟨by simpa using hh, by omega, by omega⟩
theorem stampC_at {c : Config} {v : Int} (h : predE c v = 0) {s : Spot} (hs : s ∈ edgesT c.tp) : ∃ tn : Nat, tn < 4 ∧ edgeT c.tp s = (tn : Int) ∧ stampE c s v = 0 ∧ stampC c s v = stampV (tn : Int) v := by
  obtain ⟨h0, h1, h2⟩ := predE_zero h
  have ht : soundT c.tp = 0 := by
    unfold soundC at h0
    split at h0
    · contradiction
    · rename_i hh; simpa using hh
  obtain ⟨k1, k2⟩ := sound_tenant ht hs
  have e : stampE c s v = 0 := by
    unfold stampE
    rw [if_neg (by simp [h0]), if_neg (by omega), if_neg]
    unfold edgesHas
    simp only [Bool.not_eq_false, List.contains_iff_mem]
    exact hs
  refine ⟨(edgeT c.tp s).toNat, by omega, by omega, e, ?_⟩
  unfold stampC
  rw [if_pos e, Int.toNat_of_nonneg k1]
end Go.Proofs.Ytbamjcnhmmgnlaa
set_option linter.unusedSimpArgs false
set_option linter.unusedVariables false
namespace Go.Proofs.Ytbamjcnhmmgnlaa
open Go Go.Proofs.Ytbamjcnhmmgnlaa.AL
def DLe (x y : Dat) : Prop := ∀ (w : World) (g : Nat → Nat) (v : Value), RelD w g v x → RelD w g v y
inductive DLes : List Dat → List Dat → Prop
  | nil : DLes [] []
  | cons {x y : Dat} {xs ys : List Dat} (h : DLe x y) (t : DLes xs ys) : DLes (x :: xs) (y :: ys)
theorem dle_refl (x : Dat) : DLe x x := fun _ _ _ h => h
theorem DLes.refl : ∀ xs : List Dat, DLes xs xs
  | [] => .nil
  | x :: xs => .cons (dle_refl x) (DLes.refl xs)
theorem DLes.of_eq {xs ys : List Dat} (h : xs = ys) : DLes xs ys := h ▸ DLes.refl xs
theorem DLes.length {xs ys : List Dat} (h : DLes xs ys) : xs.length = ys.length := by
  induction h with
  | nil => rfl
  | cons _ _ ih => simp [ih]
theorem DLes.at {xs ys : List Dat} (h : DLes xs ys) : ∀ {j : Nat} {y : Dat}, ys[j]? = some y → ∃ x, xs[j]? = some x ∧ DLe x y := by
  induction h with
  | nil => intro j y h; simp at h
  | cons h t ih =>
    intro j y hy
    cases j with
    | zero => simp at hy; subst hy; exact ⟨_, by simp, h⟩
    | succ j => simp at hy; obtain ⟨x, h1, h2⟩ := ih hy; exact ⟨x, by simpa using h1, h2⟩
theorem dle_sl {sz n n' : Nat} {f f' : Nat → List Dat} (hn : n = n') (hf : ∀ i, i < n → DLes (f i) (f' i)) : DLe (.sl sz n f) (.sl sz n' f') := by
  subst hn
  intro w g v r
  cases r with
  | sl0 a c sz f => exact .sl0 _ _ _ _
  | sl b off n c sz f u h1 h2 h3 h4 h5 =>
    refine .sl b off n c sz f' u h1 (fun i hi => by rw [← (hf i hi).length]; exact h2 i hi) h3 h4 (fun i j y hi hy => ?_)
    obtain ⟨x, k1, k2⟩ := (hf i hi).at hy
    exact k2 _ _ _ (h5 i j x hi k1)
theorem dle_emp {a : Option Addr} {c sz : Nat} {f : Nat → List Dat} : DLe (.v (.slice a 0 c)) (.sl sz 0 f) := by
  intro w g v r
  cases r
  exact .sl0 _ _ _ _
theorem ple_agg {xs ys : List Dat} (h : DLes xs ys) : PLe (.agg xs) (.agg ys) := by
  intro w g v r
  cases r with
  | agg vs _ h1 h2 =>
    refine .agg vs ys (by rw [h1, h.length]) (fun j v y hv hy => ?_)
    obtain ⟨x, k1, k2⟩ := h.at hy
    exact k2 _ _ _ (h2 j v x hv k1)
theorem acalls_agg {P : Program} {f : FuncId} {xs : List PV} {ds ds' : List Dat} (h : DLes ds ds') (c : ACalls P f xs (· = [.agg ds])) : ACalls P f xs (· = [.agg ds']) := by
  refine acalls_iff.2 fun w g vs hz hr => ?_
  have := acalls_iff.1 c w g vs hz hr
  unfold CallRes at *
  split at this
  · refine this.mono fun e w' ⟨v, he, g', rs, h1, h2, h3⟩ => ?_
    subst h2
    exact ⟨v, he, g', _, h1, rfl, ple_agg h _ _ _ h3⟩
  · obtain ⟨g', rs, h1, h2, h3⟩ := this
    subst h2
    exact ⟨g', _, h1, rfl, ple_agg h _ _ _ h3⟩
  · exact this.elim
end Go.Proofs.Ytbamjcnhmmgnlaa
set_option linter.unusedSimpArgs false
set_option linter.unusedVariables false
namespace Go.Proofs.Ytbamjcnhmmgnlaa
open Go Go.Proofs.Ytbamjcnhmmgnlaa.AL
def lineK : Config := ⟨[[⟨1, 0, 0, 0, 0⟩, ⟨2, 0, 1, 0, 1⟩], [⟨2, 0, 0, 1, 1⟩, ⟨1, 0, 0, 0, 0⟩]], ⟨1, [], []⟩,
  [[[⟨1, ⟨1, 1⟩, 3, 1, 0, ⟨0, 0⟩⟩, ⟨0, ⟨0, 0⟩, 1, 0, 0, ⟨0, 0⟩⟩]], [[⟨1, ⟨1, 1⟩, 2, 1, 0, ⟨0, 0⟩⟩, ⟨0, ⟨0, 0⟩, 1, 0, 0, ⟨0, 0⟩⟩]]]⟩
def lI (n : Int) : Dat := .v (.int .i64 n)
def lU (n : Int) : Dat := .v (.int .u64 n)
def lpRaw (a b c d e : Int) : List Dat := [lI a, lI b, lI c, lI d, lI e]
def lrRaw (k : Int) : List Dat := [lI 1, lU 0, lU 1, lU 0, lU 1, lI k, lI 1, lI 0, lU 0, lU 0, lU 0, lU 0]
def ldRaw : List Dat := [lI 0, lU 0, lU 0, lU 0, lU 0, lI 1, lI 0, lI 0, lU 0, lU 0, lU 0, lU 0]
def ltRaw (k : Int) : List Dat := [.sl 1 1 fun i => [[.sl 12 2 fun i => [lrRaw k, ldRaw].getD i []]].getD i []]
def lineRaw : List Dat := [.sl 1 2 fun i => [[.sl 5 2 fun i => [lpRaw 1 0 0 0 0, lpRaw 2 0 1 0 1].getD i []], [.sl 5 2 fun i => [lpRaw 2 0 0 1 1, lpRaw 1 0 0 0 0].getD i []]].getD i [], lI 1, .v (.slice none 0 0), .v (.slice none 0 0),
  .sl 1 2 fun i => [ltRaw 3, ltRaw 2].getD i []]
theorem lt_two {i : Nat} (h : i < 2) : i = 0 ∨ i = 1 := by omega
theorem lt_one {i : Nat} (h : i < 1) : i = 0 := by omega
theorem lrRaw_eq (k : Int) (i : Nat) (h : i < 2) : [lrRaw k, ldRaw].getD i [] = rowR [⟨1, ⟨1, 1⟩, k, 1, 0, ⟨0, 0⟩⟩, ⟨0, ⟨0, 0⟩, 1, 0, 0, ⟨0, 0⟩⟩] i := by
  rcases lt_two h with rfl | rfl
  · show lrRaw k = ruleD ⟨1, ⟨1, 1⟩, k, 1, 0, ⟨0, 0⟩⟩
    unfold ruleD lrRaw lI lU
    simp only [hi_zero, lo_zero, show hi 1 = 0 by decide, show lo 1 = 1 by decide]
  · show ldRaw = ruleD ⟨0, ⟨0, 0⟩, 1, 0, 0, ⟨0, 0⟩⟩
    unfold ruleD ldRaw lI lU
    simp only [hi_zero, lo_zero]
theorem ltRaw_le (k : Int) : DLes (ltRaw k) [.sl 1 1 (rowRR [[⟨1, ⟨1, 1⟩, k, 1, 0, ⟨0, 0⟩⟩, ⟨0, ⟨0, 0⟩, 1, 0, 0, ⟨0, 0⟩⟩]])] := by
  refine .cons (dle_sl rfl fun i h => ?_) .nil
  obtain rfl := lt_one h
  exact .cons (dle_sl rfl fun i h => .of_eq (lrRaw_eq k i h)) .nil
theorem lineRaw_le : DLes lineRaw (configD lineK) := by
  refine .cons (dle_sl rfl fun i h => ?_) (.cons (dle_refl _) (.cons dle_emp (.cons dle_emp (.cons (dle_sl rfl fun i h => ?_) .nil))))
  · rcases lt_two h with rfl | rfl
    · refine .cons (dle_sl rfl fun i h => ?_) .nil
      rcases lt_two h with rfl | rfl <;> exact .of_eq rfl
    · refine .cons (dle_sl rfl fun i h => ?_) .nil
      rcases lt_two h with rfl | rfl <;> exact .of_eq rfl
  · rcases lt_two h with rfl | rfl
    · exact ltRaw_le 3
    · exact ltRaw_le 2
theorem lineK_small : lineK.small := by
  refine ⟨⟨by decide, ?_⟩, ⟨by decide, by decide⟩, by decide, ?_⟩
  · intro l h
    simp only [lineK, List.mem_cons, List.not_mem_nil, or_false] at h
    rcases h with rfl | rfl <;> decide
  · intro t h
    simp only [lineK, List.mem_cons, List.not_mem_nil, or_false] at h
    rcases h with rfl | rfl <;> refine ⟨by decide, fun l h => ?_⟩ <;> (simp only [List.mem_singleton] at h; subst h; decide)
set_option maxRecDepth 100000 in
set_option maxHeartbeats 2000000 in
theorem line13_c : ACalls Try.prog 56 [] (· = [.agg (configD lineK)]) := by
  refine acalls_agg lineRaw_le ?_
  unfold lineRaw ltRaw lrRaw ldRaw lpRaw lI lU
  refine q11 Try.func56 rfl (by decide +kernel) (by rw [Try.ntmps56]; simp) ?_; rw [Try.ntmps56]; simp only [frOf]
  (repeat (first | refine j0 ?_ | refine q7 rfl ?_ | refine z7 rfl ?_ | refine x6 ?_ | (refine z5 fun K hK => ?_) | (refine j5 (by kernel_rfl) (by kernel_rfl) fun K hK => ?_) | ((first | refine q6 ?_ | refine z6 ?_ | ((first | refine z3 (hK _ ?_) | refine j4 (hK _ _ (z4 (by kernel_rfl)) ?_)); clear hK K)); (first | show AWP _ _ _ _ _ | ((try simp only [j6]); first | show loopQ _ _ _ _ _ _ | show cutQ _ _ _ _ | show AWP _ _ _ _ _))) | ((first | refine x7 [1, 2, 3] rfl ?_ | refine j7 [1, 2, 3] rfl ?_); simp (maxSteps := 2000000) (disch := omega) only [go_sem, seval, hd, cb]; (repeat (first | refine ⟨by omega, ?_⟩ | refine ⟨True.intro, ?_⟩)))))
  refine j8 ⟨_, ?_, rfl⟩; rw [Try.results56]; simp (disch := omega) only [ResVars, ResVar, ptrLoc, go_sem, seval, hd, cb]
end Go.Proofs.Ytbamjcnhmmgnlaa
set_option linter.unusedSimpArgs false
set_option linter.unusedVariables false
namespace Go.Proofs.Ytbamjcnhmmgnlaa
open Go Go.Proofs.Ytbamjcnhmmgnlaa.AL
theorem Of_c (c : Config) (v : Int) (hc : c.small) (hv : -9223372036854775808 ≤ v ∧ v < 9223372036854775808) : ACalls Try.prog 28 [.agg (configD c), .d (.v (.int .i64 v))] (· = [.d (.sl 4 (ofV c v).length (rowC (ofV c v))), .d (.v (.int .i64 (ofE c v)))]) := by
  by_cases h : predE c v = 0
  · exact Of_good c v hc hv h
  · have e : ofE c v = predE c v := by unfold ofE; rw [if_pos h]
    have e2 : ofV c v = [] := by unfold ofV; rw [e, if_neg h]
    rw [e, e2]
    exact Of_bad c v hc hv h
theorem line_ofE : ofE lineK 0 = 0 := by decide +kernel
theorem line_ofV : ofV lineK 0 = [⟨0, 0⟩, ⟨1, 1⟩] := by decide +kernel
theorem line_setsV : setsV lineK 0 = [stampV 0 0] := by decide +kernel
theorem line_predE : predE lineK 0 = 0 := by decide +kernel
set_option maxRecDepth 100000 in
set_option maxHeartbeats 2000000 in
theorem awake13_c : ACalls Try.prog 26 [] (· = [.d (.v (.bool true))]) := by
  have k0 := line13_c
  have k1 := Of_c lineK 0 lineK_small (by omega)
  have k2 := Sets_c lineK 0 lineK_small (by omega)
  rw [line_ofE, line_ofV] at k1
  rw [line_setsV, line_predE] at k2
  generalize stampV 0 0 = k at k2
  have r0 : rowC ([⟨0, 0⟩, ⟨1, 1⟩] : List Cube) 0 = [.v (.int .u64 0), .v (.int .u64 0), .v (.int .u64 0), .v (.int .u64 0)] := by
    show cb ⟨0, 0⟩ = _
    unfold cb; simp only [hi_zero, lo_zero]
  have r1 : rowC ([⟨0, 0⟩, ⟨1, 1⟩] : List Cube) 1 = [.v (.int .u64 0), .v (.int .u64 1), .v (.int .u64 0), .v (.int .u64 1)] := by
    show cb ⟨1, 1⟩ = _
    unfold cb; simp only [show hi 1 = 0 by decide, show lo 1 = 1 by decide]
  simp only [List.length_cons, List.length_nil, Nat.zero_add, Nat.reduceAdd] at k1 k2
  generalize rowC ([⟨0, 0⟩, ⟨1, 1⟩] : List Cube) = f at k1 r0 r1
  refine q11 Try.func26 rfl (by decide +kernel) (by rw [Try.ntmps26]; simp) ?_; rw [Try.ntmps26]; simp only [frOf]
  (repeat (first | refine j0 ?_ | refine q7 rfl ?_ | refine z7 rfl ?_ | refine x6 ?_ | (refine z5 fun K hK => ?_) | (refine j5 (by kernel_rfl) (by kernel_rfl) fun K hK => ?_) | ((first | refine q6 ?_ | refine z6 ?_ | ((first | refine z3 (hK _ ?_) | refine j4 (hK _ _ (z4 (by kernel_rfl)) ?_)); clear hK K)); (first | show AWP _ _ _ _ _ | ((try simp only [j6]); first | show loopQ _ _ _ _ _ _ | show cutQ _ _ _ _ | show AWP _ _ _ _ _))) | ((first | refine z9 rfl rfl rfl ?_ | refine x9 rfl rfl rfl ?_); simp (maxSteps := 2000000) (disch := omega) only [go_sem, seval, hd, cb, ruleD, configD, spotD, topoD, q9, eqty25, r0, r1, eqI]; (first | refine ⟨_, k0, ?_⟩ | refine ⟨_, k1, ?_⟩ | refine ⟨_, k2, ?_⟩)) | ((first | refine x7 [1] rfl ?_ | refine j7 [1] rfl ?_); simp (maxSteps := 2000000) (disch := omega) only [go_sem, seval, hd, cb, ruleD, configD, spotD, topoD, q9, eqty25, r0, r1, eqI]; (repeat (first | refine ⟨by omega, ?_⟩ | refine ⟨True.intro, ?_⟩)))))
  refine j8 ⟨_, ?_, rfl⟩; rw [Try.results26]; simp (disch := omega) only [ResVars, ResVar, ptrLoc, go_sem, seval, hd, cb, ruleD, configD, spotD, topoD, q9, eqty25, r0, r1, eqI]
end Go.Proofs.Ytbamjcnhmmgnlaa
set_option linter.unusedSimpArgs false
set_option linter.unusedVariables false
namespace Go.Proofs.Ytbamjcnhmmgnlaa
open Go Go.Proofs.Ytbamjcnhmmgnlaa.AL
end Go.Proofs.Ytbamjcnhmmgnlaa
set_option linter.unusedSimpArgs false
set_option linter.unusedVariables false
namespace Go.Proofs.Ytbamjcnhmmgnlaa
open Go.Proofs.Ytbamjcnhmmgnlaa.AL
end Go.Proofs.Ytbamjcnhmmgnlaa
set_option linter.unusedSimpArgs false
set_option linter.unusedVariables false
namespace Go.Proofs.Ytbamjcnhmmgnlaa
open Go.Proofs.Ytbamjcnhmmgnlaa.AL
end Go.Proofs.Ytbamjcnhmmgnlaa
set_option linter.unusedSimpArgs false
set_option linter.unusedVariables false
namespace Go.Proofs.Ytbamjcnhmmgnlaa
open Go.Proofs.Ytbamjcnhmmgnlaa.AL
end Go.Proofs.Ytbamjcnhmmgnlaa
set_option linter.unusedSimpArgs false
set_option linter.unusedVariables false
namespace Go.Proofs.Ytbamjcnhmmgnlaa
open Go.Proofs.Ytbamjcnhmmgnlaa.AL
def keyR (r : Rule) : Int := -r.pr
def sortR (l : List Rule) : List Rule := isort keyR l
def bestTo (u : Nat → Bool) (x : Nat → Rule) : Nat → Option Nat
  | 0 => none
  | i + 1 => match bestTo u x i with
    | none => if u i then none else some i
    | some b => if u i then some b else if (x b).pr < (x i).pr then some i else some b
theorem bestTo_spec (u : Nat → Bool) (x : Nat → Rule) : ∀ i, match bestTo u x i with
    | none => ∀ q, q < i → u q = true
    | some p => p < i ∧ u p = false ∧ ∀ q, q < i → u q = false → (x q).pr ≤ (x p).pr ∧ (q < p → (x q).pr < (x p).pr)
  | 0 => fun q h => by omega
  | i + 1 => by
    have ih := bestTo_spec u x i
    unfold bestTo
    cases hb : bestTo u x i with
    | none =>
      rw [hb] at ih
      cases hu : u i
      · simp only [Bool.false_eq_true, if_false]
        refine ⟨by omega, hu, fun q hq hq2 => ?_⟩
        have : q = i := by
          refine Classical.byContradiction fun hne => ?_
          have := ih q (by omega)
          rw [hq2] at this; cases this
        subst this
        exact ⟨Int.le_refl _, fun h => by omega⟩
      · simp only [if_true]
        intro q hq
        by_cases h : q = i
        · rw [h]; exact hu
        · exact ih q (by omega)
    | some b =>
      rw [hb] at ih
      obtain ⟨h1, h2, h3⟩ := ih
      cases hu : u i
      · simp only [Bool.false_eq_true, if_false]
        split
        · rename_i p hp
          split at hp <;> cases hp
        · rename_i p hp
          split at hp
          · rename_i hlt
            cases hp
            refine ⟨by omega, hu, fun q hq hq2 => ?_⟩
            by_cases h : q = i
            · subst h; exact ⟨Int.le_refl _, fun h => by omega⟩
            · have := (h3 q (by omega) hq2).1
              exact ⟨by omega, fun _ => by omega⟩
          · rename_i hlt
            cases hp
            refine ⟨by omega, h2, fun q hq hq2 => ?_⟩
            by_cases h : q = i
            · subst h; exact ⟨by omega, fun h => by omega⟩
            · exact h3 q (by omega) hq2
      · simp only [if_true]
        refine ⟨by omega, h2, fun q hq hq2 => ?_⟩
        by_cases h : q = i
        · subst h; rw [hu] at hq2; cases hq2
        · exact h3 q (by omega) hq2
def rem (n : Nat) (out : List Nat) : List Nat := (List.range n).filter fun i => !out.contains i
theorem isort_pick {α : Type} {key : α → Int} (x : Nat → α) {r : List Nat} {p : Nat} (hr : r.Pairwise (· < ·)) (hp : p ∈ r) (hmin : ∀ q ∈ r, key (x p) ≤ key (x q) ∧ (q < p → key (x p) < key (x q))) :
    isort key (r.map x) = x p :: isort key ((r.filter (· != p)).map x) := by
  obtain ⟨r1, r2, rfl⟩ := List.append_of_mem hp
  have ⟨q1, q2, q3⟩ := List.pairwise_append.1 hr
  have q4 := List.pairwise_cons.1 q2
  have n1 : ∀ q ∈ r1, q < p := fun q hq => q3 q hq p (by simp)
  have n2 : ∀ q ∈ r2, p < q := fun q hq => q4.1 q hq
  have hf : (r1 ++ p :: r2).filter (· != p) = r1 ++ r2 := by
    rw [List.filter_append, List.filter_cons]
    simp only [bne_self_eq_false, Bool.false_eq_true, if_false]
    rw [List.filter_eq_self.2 fun q hq => by have := n1 q hq; simp; omega, List.filter_eq_self.2 fun q hq => by have := n2 q hq; simp; omega]
  rw [hf]
  refine filter_unique (isort_sorted _) (List.pairwise_cons.2 ⟨fun e he => ?_, isort_sorted _⟩) fun k => ?_
  · have : e ∈ (isort key ((r1 ++ r2).map x)).filter (fun z => key z == key e) := List.mem_filter.2 ⟨he, by simp⟩
    rw [isort_filter] at this
    obtain ⟨q, hq, rfl⟩ := List.mem_map.1 (List.mem_filter.1 this).1
    refine (hmin q ?_).1
    rcases List.mem_append.1 hq with h | h
    · simp [h]
    · simp [h]
  · rw [isort_filter, List.filter_cons, isort_filter]
    simp only [List.map_append, List.map_cons, List.filter_append, List.filter_cons]
    by_cases hk : key (x p) = k
    · have : (r1.map x).filter (fun e => key e == k) = [] := by
        rw [List.filter_eq_nil_iff]
        intro e he hk2
        obtain ⟨q, hq, rfl⟩ := List.mem_map.1 he
        have := (hmin q (by simp [hq])).2 (n1 q hq)
        have := beq_iff_eq.1 hk2
        omega
      rw [this]; simp [hk]
    · simp [hk]
theorem rem_step {n : Nat} {out : List Nat} {p : Nat} : rem n (out ++ [p]) = (rem n out).filter (· != p) := by
  unfold rem
  rw [List.filter_filter]
  refine List.filter_congr fun i hi => ?_
  simp only [List.contains_append, List.contains_cons, List.contains_nil, Bool.or_false]
  cases out.contains i <;> simp [bne]
theorem rem_mem {n : Nat} {out : List Nat} {i : Nat} : i ∈ rem n out ↔ i < n ∧ i ∉ out := by
  unfold rem
  rw [List.mem_filter, List.mem_range]
  simp
theorem rem_len {n : Nat} : ∀ {r : List Nat} {p : Nat}, r.Pairwise (· < ·) → p ∈ r → (r.filter (· != p)).length + 1 = r.length
  | [], p, _, h => by cases h
  | q :: r, p, h, hp => by
    have ⟨h1, h2⟩ := List.pairwise_cons.1 h
    rw [List.filter_cons]
    rcases List.mem_cons.1 hp with rfl | hp
    · simp only [bne_self_eq_false, Bool.false_eq_true, if_false]
      rw [List.filter_eq_self.2 fun q hq => by have := h1 q hq; simp; omega]; rfl
    · have := h1 p hp
      have hq : (q != p) = true := by simp; omega
      rw [if_pos hq, List.length_cons, List.length_cons, rem_len (n := n) h2 hp]
theorem rem_sorted (n : Nat) (out : List Nat) : (rem n out).Pairwise (· < ·) := List.Pairwise.filter _ List.pairwise_lt_range
structure Ord (l : List Rule) (out : List Nat) : Prop where
  lt : ∀ i ∈ out, i < l.length
  len : out.length + (rem l.length out).length = l.length
  eq : out.map (fun i => l.getD i r0) ++ sortR ((rem l.length out).map fun i => l.getD i r0) = sortR l
theorem Ord.start (l : List Rule) : Ord l [] := by
  have e : rem l.length [] = List.range l.length := by unfold rem; exact List.filter_eq_self.2 fun _ _ => rfl
  refine ⟨fun i h => (by cases h), by rw [e]; simp, ?_⟩
  rw [e]
  have : (List.range l.length).map (fun i => l.getD i r0) = l := by
    apply List.ext_getElem
    · simp
    · intro k h1 h2; simp [h2]
  rw [this]; rfl
theorem Ord.step {l : List Rule} {out : List Nat} (h : Ord l out) (hlt : out.length < l.length) : ∃ p, bestTo (fun i => out.contains i) (fun i => l.getD i r0) l.length = some p ∧ p < l.length ∧ p ∉ out ∧ Ord l (out ++ [p]) := by
  have sp := bestTo_spec (fun i => out.contains i) (fun i => l.getD i r0) l.length
  cases hb : bestTo (fun i => out.contains i) (fun i => l.getD i r0) l.length with
  | none =>
    rw [hb] at sp
    have : rem l.length out = [] := by
      rw [List.eq_nil_iff_forall_not_mem]
      intro i hi
      obtain ⟨h1, h2⟩ := rem_mem.1 hi
      have := sp i h1
      simp at this
      exact h2 this
    have := h.len
    rw [‹rem l.length out = []›] at this
    simp at this
    omega
  | some p =>
    rw [hb] at sp
    obtain ⟨h1, h2, h3⟩ := sp
    have hno : p ∉ out := by simpa using h2
    have hp : p ∈ rem l.length out := rem_mem.2 ⟨h1, hno⟩
    refine ⟨p, rfl, h1, hno, ⟨fun i hi => ?_, ?_, ?_⟩⟩
    · rcases List.mem_append.1 hi with hi | hi
      · exact h.lt i hi
      · simp at hi; subst hi; exact h1
    · rw [rem_step, List.length_append]
      have := rem_len (n := l.length) (rem_sorted l.length out) hp
      have := h.len
      simp; omega
    · rw [rem_step, ← h.eq, List.map_append, List.append_assoc]
      congr 1
      unfold sortR
      rw [isort_pick (key := keyR) (fun i => l.getD i r0) (rem_sorted l.length out) hp fun q hq => ?_]
      · rfl
      · obtain ⟨q1, q2⟩ := rem_mem.1 hq
        have := h3 q q1 (by simpa using q2)
        unfold keyR
        exact ⟨by have := this.1; omega, fun hlt => by have := this.2 hlt; omega⟩
theorem Ord.done {l : List Rule} {out : List Nat} (h : Ord l out) (hl : ¬ out.length < l.length) : out.length = l.length ∧ out.map (fun i => l.getD i r0) = sortR l := by
  have := h.len
  have e : rem l.length out = [] := List.eq_nil_of_length_eq_zero (by omega)
  refine ⟨by omega, ?_⟩
  have := h.eq
  rw [e] at this
  simpa [sortR, isort] using this
def rowI (l : List Nat) : Nat → List Dat := fun i => [.v (.int .i64 ((l.getD i 0 : Nat) : Int))]
def ordTo (l : List Rule) : Nat → List Nat
  | 0 => []
  | k + 1 => match bestTo (fun i => (ordTo l k).contains i) (fun i => l.getD i r0) l.length with
    | some p => ordTo l k ++ [p]
    | none => ordTo l k
theorem ordTo_ord (l : List Rule) : ∀ k, k ≤ l.length → Ord l (ordTo l k) ∧ (ordTo l k).length = k
  | 0, _ => ⟨Ord.start l, rfl⟩
  | k + 1, hk => by
    obtain ⟨h1, h2⟩ := ordTo_ord l k (by omega)
    obtain ⟨p, e, _, _, h3⟩ := h1.step (by omega)
    unfold ordTo
    rw [e]
    exact ⟨h3, by simp [h2]⟩
def orderR (l : List Rule) : List Nat := ordTo l l.length
def bestI (b : Option Nat) : Int := match b with
  | none => -1
  | some p => (p : Int)
theorem bestTo_succ (u : Nat → Bool) (x : Nat → Rule) (i : Nat) : bestTo u x (i + 1) = match bestTo u x i with
    | none => if u i then none else some i
    | some b => if u i then some b else if (x b).pr < (x i).pr then some i else some b := rfl
end Go.Proofs.Ytbamjcnhmmgnlaa
set_option linter.unusedSimpArgs false
set_option linter.unusedVariables false
namespace Go.Proofs.Ytbamjcnhmmgnlaa
open Go.Proofs.Ytbamjcnhmmgnlaa.AL
section
variable {α : Type}
def swp (x : Nat → α) (i j : Nat) : Nat → α := fun k => if k = j then x i else if k = i then x j else x k
theorem swp_self (x : Nat → α) (i : Nat) : swp x i i = x := by
  funext k; unfold swp
  by_cases h : k = i
  · rw [if_pos h, h]
  · rw [if_neg h, if_neg h]
theorem swp_comm (x : Nat → α) (i j : Nat) : swp x i j = swp x j i := by
  funext k; unfold swp
  by_cases h : k = j
  · by_cases h2 : k = i
    · rw [if_pos h, if_pos h2]; congr 1; omega
    · rw [if_pos h, if_neg h2, if_pos h]
  · by_cases h2 : k = i
    · rw [if_neg h, if_pos h2, if_pos h2]
    · rw [if_neg h, if_neg h2, if_neg h2, if_neg h]
theorem swp_l (x : Nat → α) (i j : Nat) : swp x i j i = x j := by
  unfold swp
  by_cases h : i = j
  · rw [if_pos h, h]
  · rw [if_neg h, if_pos rfl]
theorem swp_r (x : Nat → α) (i j : Nat) : swp x i j j = x i := by unfold swp; rw [if_pos rfl]
theorem swp_o (x : Nat → α) {i j k : Nat} (h1 : k ≠ i) (h2 : k ≠ j) : swp x i j k = x k := by unfold swp; rw [if_neg h2, if_neg h1]
theorem seg_one (x : Nat → α) (a : Nat) : seg x a (a + 1) = [x a] := by
  unfold seg; rw [show a + 1 - a = 1 from by omega]; rfl
structure PE (a b : Nat) (x y : Nat → α) : Prop where
  out : ∀ k, ¬ (a ≤ k ∧ k < b) → y k = x k
  perm : (seg y a b).Perm (seg x a b)
theorem PE.refl (a b : Nat) (x : Nat → α) : PE a b x x := ⟨fun _ _ => rfl, List.Perm.refl _⟩
theorem PE.trans {a b : Nat} {x y z : Nat → α} (h : PE a b x y) (k : PE a b y z) : PE a b x z :=
  ⟨fun i hi => (k.out i hi).trans (h.out i hi), k.perm.trans h.perm⟩
theorem PE.widen {a b a' b' : Nat} {x y : Nat → α} (h : PE a b x y) (h1 : a' ≤ a) (hab : a ≤ b) (h2 : b ≤ b') : PE a' b' x y := by
  refine ⟨fun k hk => h.out k (by omega), ?_⟩
  rw [seg_split y (show a' ≤ b by omega) h2, seg_split y h1 hab, seg_split x (show a' ≤ b by omega) h2, seg_split x h1 hab]
  rw [seg_congr (x := y) (y := x) (a := a') (b := a) (fun k _ hk => h.out k (by omega)), seg_congr (x := y) (y := x) (a := b) (b := b') (fun k hk _ => h.out k (by omega))]
  exact (h.perm.append_left _).append_right _
theorem PE.mem {a b : Nat} {x y : Nat → α} (h : PE a b x y) {k : Nat} (h1 : a ≤ k) (h2 : k < b) : ∃ k', a ≤ k' ∧ k' < b ∧ y k = x k' := by
  have : y k ∈ seg y a b := mem_seg.2 ⟨k, h1, h2, rfl⟩
  obtain ⟨k', a1, a2, a3⟩ := mem_seg.1 (h.perm.mem_iff.1 this)
  exact ⟨k', a1, a2, a3.symm⟩
theorem PE.swp_lt {x : Nat → α} {a b i j : Nat} (h1 : a ≤ i) (h2 : i < j) (h3 : j < b) : PE a b x (swp x i j) := by
  refine ⟨fun k hk => swp_o x (by omega) (by omega), ?_⟩
  have e : ∀ y : Nat → α, seg y a b = seg y a i ++ (seg y i (i + 1) ++ (seg y (i + 1) j ++ (seg y j (j + 1) ++ seg y (j + 1) b))) := by
    intro y
    rw [seg_split y h1 (show i ≤ b by omega), seg_split y (show i ≤ i + 1 by omega) (show i + 1 ≤ b by omega), seg_split y (show i + 1 ≤ j by omega) (show j ≤ b by omega), seg_split y (show j ≤ j + 1 by omega) (show j + 1 ≤ b by omega)]
  rw [e, e, seg_one, seg_one, seg_one, seg_one, swp_l, swp_r]
  rw [seg_congr (x := swp x i j) (y := x) (a := a) (b := i) (fun k _ _ => swp_o x (by omega) (by omega)),
    seg_congr (x := swp x i j) (y := x) (a := i + 1) (b := j) (fun k _ _ => swp_o x (by omega) (by omega)),
    seg_congr (x := swp x i j) (y := x) (a := j + 1) (b := b) (fun k _ _ => swp_o x (by omega) (by omega))]
  refine List.Perm.append_left _ ?_
  simp only [List.singleton_append]
  refine (List.Perm.cons _ List.perm_middle).trans ?_
  exact (List.Perm.swap _ _ _).trans (List.Perm.cons _ List.perm_middle.symm)
theorem PE.swp {x : Nat → α} {a b i j : Nat} (h1 : a ≤ i) (h2 : i < b) (h3 : a ≤ j) (h4 : j < b) : PE a b x (swp x i j) := by
  by_cases h : i = j
  · subst h; rw [swp_self]; exact PE.refl _ _ _
  · by_cases h' : i < j
    · exact PE.swp_lt h1 h' h4
    · rw [swp_comm]; exact PE.swp_lt h3 (by omega) h2
structure Dom (n N : Nat) (x : Nat → Nat) : Prop where
  lt : ∀ k, k < n → x k < N
  nd : (seg x 0 n).Nodup
theorem Dom.pe {n N a b : Nat} {x y : Nat → Nat} (h : Dom n N x) (p : PE a b x y) (hab : a ≤ b) (hb : b ≤ n) : Dom n N y := by
  have p' := p.widen (Nat.zero_le a) hab hb
  refine ⟨fun k hk => ?_, p'.perm.nodup_iff.2 h.nd⟩
  obtain ⟨k', _, h2, h3⟩ := p'.mem (Nat.zero_le k) hk
  rw [h3]; exact h.lt k' h2
theorem Dom.inj {n N : Nat} {x : Nat → Nat} (h : Dom n N x) {i j : Nat} (hi : i < n) (hj : j < n) (e : x i = x j) : i = j := by
  have hn := h.nd
  unfold seg at hn
  rw [List.Nodup, List.pairwise_map, List.pairwise_iff_getElem] at hn
  apply Classical.byContradiction
  intro hne
  rcases Nat.lt_or_gt_of_ne hne with hlt | hlt
  · have := hn i j (by simpa using hi) (by simpa using hj) hlt
    simp at this; exact this e
  · have := hn j i (by simpa using hj) (by simpa using hi) hlt
    simp at this; exact this e.symm
end
end Go.Proofs.Ytbamjcnhmmgnlaa
set_option linter.unusedSimpArgs false
set_option linter.unusedVariables false
namespace Go.Proofs.Ytbamjcnhmmgnlaa
open Go.Proofs.Ytbamjcnhmmgnlaa.AL
def ltR (l : List Rule) (a b : Nat) : Prop := (l.getD b r0).pr < (l.getD a r0).pr ∨ ((l.getD b r0).pr = (l.getD a r0).pr ∧ a < b)
theorem ordTo_srt (l : List Rule) : ∀ k, k ≤ l.length → (ordTo l k).Pairwise (ltR l) ∧ (∀ a ∈ ordTo l k, ∀ q, q < l.length → q ∉ ordTo l k → ltR l a q)
  | 0, _ => ⟨List.Pairwise.nil, fun a h => by cases h⟩
  | k + 1, hk => by
    obtain ⟨h1, h2⟩ := ordTo_srt l k (by omega)
    obtain ⟨h3, h4⟩ := ordTo_ord l k (by omega)
    obtain ⟨p, e, p1, p2, _⟩ := h3.step (by omega)
    have sp := bestTo_spec (fun i => (ordTo l k).contains i) (fun i => l.getD i r0) l.length
    rw [e] at sp
    obtain ⟨_, _, s3⟩ := sp
    have e2 : ordTo l (k + 1) = ordTo l k ++ [p] := by
      show (match bestTo (fun i => (ordTo l k).contains i) (fun i => l.getD i r0) l.length with
        | some p => ordTo l k ++ [p]
        | none => ordTo l k) = _
      rw [e]
    rw [e2]
    refine ⟨List.pairwise_append.2 ⟨h1, by simp, fun a ha b hb => ?_⟩, fun a ha q hq hq2 => ?_⟩
    · simp only [List.mem_singleton] at hb
      subst hb
      exact h2 a ha b p1 p2
    · simp only [List.mem_append, List.mem_singleton, not_or] at hq2
      rcases List.mem_append.1 ha with ha | ha
      · exact h2 a ha q hq hq2.1
      · simp only [List.mem_singleton] at ha
        subst ha
        obtain ⟨t1, t2⟩ := s3 q hq (by simpa using hq2.1)
        unfold ltR
        by_cases hlt : q < a
        · exact .inl (t2 hlt)
        · omega
theorem orderR_srt (l : List Rule) : (orderR l).Pairwise (ltR l) := (ordTo_srt l l.length (Nat.le_refl _)).1
theorem orderR_len (l : List Rule) : (orderR l).length = l.length := (ordTo_ord l l.length (Nat.le_refl _)).2
theorem orderR_lt {l : List Rule} {i : Nat} (h : i ∈ orderR l) : i < l.length := (ordTo_ord l l.length (Nat.le_refl _)).1.lt i h
theorem orderR_mem {l : List Rule} {i : Nat} : i ∈ orderR l ↔ i < l.length := by
  refine ⟨orderR_lt, fun h => Classical.byContradiction fun hn => ?_⟩
  have h1 := (ordTo_ord l l.length (Nat.le_refl _)).1.len
  have h2 := orderR_len l
  unfold orderR at h2 hn
  have h3 : rem l.length (ordTo l l.length) = [] := List.eq_nil_of_length_eq_zero (by omega)
  have h4 := rem_mem.2 ⟨h, hn⟩
  rw [h3] at h4
  cases h4
end Go.Proofs.Ytbamjcnhmmgnlaa
set_option linter.unusedSimpArgs false
set_option linter.unusedVariables false
namespace Go.Proofs.Ytbamjcnhmmgnlaa
open Go.Proofs.Ytbamjcnhmmgnlaa.AL
end Go.Proofs.Ytbamjcnhmmgnlaa
set_option linter.unusedSimpArgs false
set_option linter.unusedVariables false
namespace Go.Proofs.Ytbamjcnhmmgnlaa
open Go.Proofs.Ytbamjcnhmmgnlaa.AL
section
variable {key : Nat → Int}
def Hp (key : Nat → Int) (f : Nat) (x : Nat → Nat) (lo hi : Nat) : Prop := ∀ p c, lo ≤ p → (c = 2 * p + 1 ∨ c = 2 * p + 2) → c < hi → key (x (f + c)) ≤ key (x (f + p))
structure HpX (key : Nat → Int) (f : Nat) (x : Nat → Nat) (lo hi r : Nat) : Prop where
  oth : ∀ p c, lo ≤ p → p ≠ r → (c = 2 * p + 1 ∨ c = 2 * p + 2) → c < hi → key (x (f + c)) ≤ key (x (f + p))
  up : ∀ p c, lo ≤ p → (r = 2 * p + 1 ∨ r = 2 * p + 2) → (c = 2 * r + 1 ∨ c = 2 * r + 2) → c < hi → key (x (f + c)) ≤ key (x (f + p))
theorem HpX.start {f lo hi : Nat} {x : Nat → Nat} (h : Hp key f x (lo + 1) hi) : HpX key f x lo hi lo :=
  ⟨fun p c h1 h2 h3 h4 => h p c (by omega) h3 h4, fun p c h1 h2 _ _ => by omega⟩
theorem HpX.done {f lo hi r : Nat} {x : Nat → Nat} (h : HpX key f x lo hi r) (hr : ∀ c, (c = 2 * r + 1 ∨ c = 2 * r + 2) → c < hi → key (x (f + c)) ≤ key (x (f + r))) : Hp key f x lo hi := by
  intro p c h1 h2 h3
  by_cases e : p = r
  · subst e; exact hr c h2 h3
  · exact h.oth p c h1 e h2 h3
theorem HpX.step {f lo hi r c : Nat} {x : Nat → Nat} (h : HpX key f x lo hi r) (hlo : lo ≤ r) (hc : c = 2 * r + 1 ∨ c = 2 * r + 2) (hch : c < hi) (hlt : key (x (f + r)) ≤ key (x (f + c)))
    (hmax : ∀ d, (d = 2 * r + 1 ∨ d = 2 * r + 2) → d < hi → key (x (f + d)) ≤ key (x (f + c))) : HpX key f (swp x (f + r) (f + c)) lo hi c := by
  have sr : swp x (f + r) (f + c) (f + r) = x (f + c) := swp_l _ _ _
  have sc : swp x (f + r) (f + c) (f + c) = x (f + r) := swp_r _ _ _
  have so : ∀ k, k ≠ r → k ≠ c → swp x (f + r) (f + c) (f + k) = x (f + k) := fun k h1 h2 => swp_o _ (by omega) (by omega)
  refine ⟨fun p d h1 h2 h3 h4 => ?_, fun p d h1 h2 h3 h4 => ?_⟩
  · by_cases e : p = r
    · subst e
      rw [sr]
      by_cases e2 : d = c
      · subst e2; rw [sc]; exact hlt
      · rw [so d (by omega) e2]; exact hmax d h3 h4
    · rw [so p e h2]
      by_cases e2 : d = r
      · subst e2; rw [sr]; exact h.up p c h1 h3 hc hch
      · by_cases e3 : d = c
        · omega
        · rw [so d e2 e3]; exact h.oth p d h1 e h3 h4
  · have e : p = r := by omega
    subst e
    rw [sr, so d (by omega) (by omega)]
    exact h.oth c d (by omega) (by omega) h3 h4
theorem Hp.root {f hi : Nat} {x : Nat → Nat} (h : Hp key f x 0 hi) : ∀ c, c < hi → key (x (f + c)) ≤ key (x (f + 0)) := by
  intro c
  induction c using Nat.strongRecOn with
  | _ c ih =>
    intro hc
    by_cases h0 : c = 0
    · subst h0; exact Int.le_refl _
    · have := ih ((c - 1) / 2) (by omega) (by omega)
      have h2 := h ((c - 1) / 2) c (by omega) (by omega) hc
      omega
theorem Hp.mono {f lo hi lo' hi' : Nat} {x y : Nat → Nat} (h : Hp key f x lo hi) (h1 : lo ≤ lo') (h2 : hi' ≤ hi) (hy : ∀ k, lo' ≤ k → k < hi' → y (f + k) = x (f + k)) : Hp key f y lo' hi' := by
  intro p c h3 h4 h5
  rw [hy p h3 (by omega), hy c (by omega) h5]
  exact h p c (by omega) h4 (by omega)
theorem Hp.none {f hi m : Nat} {x : Nat → Nat} (h : hi ≤ 2 * m + 1) : Hp key f x m hi := by
  intro p c h1 h2 h3; omega
structure HS (key : Nat → Int) (f b i : Nat) (y : Nat → Nat) : Prop where
  hp : Hp key f y 0 i
  srt : Srt key (f + i) b y
  up : ∀ p q, p < i → f + i ≤ q → q < b → key (y (f + p)) ≤ key (y q)
theorem HS.out {f b i : Nat} {y : Nat → Nat} (h : HS key f b (i + 1) y) (hb : f + i < b) : Hp key f (swp y f (f + i)) 1 i ∧ Srt key (f + i) b (swp y f (f + i)) ∧ ∀ p q, p < i → f + i ≤ q → q < b → key (swp y f (f + i) (f + p)) ≤ key (swp y f (f + i) q) := by
  have sr : swp y f (f + i) (f + i) = y f := swp_r _ _ _
  have s0 : swp y f (f + i) f = y (f + i) := swp_l _ _ _
  have so : ∀ k, k ≠ f → k ≠ f + i → swp y f (f + i) k = y k := fun k h1 h2 => swp_o _ h1 h2
  have rt := h.hp.root
  refine ⟨h.hp.mono (by omega) (by omega) fun k h1 h2 => so _ (by omega) (by omega), fun p q h1 h2 h3 => ?_, fun p q h1 h2 h3 => ?_⟩
  · rw [so q (by omega) (by omega)]
    by_cases e : p = f + i
    · subst e; rw [sr]; exact h.up 0 q (by omega) (by omega) h3
    · rw [so p (by omega) e]; exact h.srt p q (by omega) h2 h3
  · by_cases e : q = f + i
    · subst e; rw [sr]
      by_cases e2 : p = 0
      · subst e2; rw [Nat.add_zero, s0]; exact rt i (by omega)
      · rw [so _ (by omega) (by omega)]; exact rt p (by omega)
    · rw [so q (by omega) e]
      by_cases e2 : p = 0
      · subst e2; rw [Nat.add_zero, s0]; exact h.up i q (by omega) (by omega) h3
      · rw [so _ (by omega) (by omega)]; exact h.up p q (by omega) (by omega) h3
theorem HS.next {f b i : Nat} {y z : Nat → Nat} (hs : Srt key (f + i) b y) (hu : ∀ p q, p < i → f + i ≤ q → q < b → key (y (f + p)) ≤ key (y q)) (hp : PE f (f + i) y z) (hh : Hp key f z 0 i) : HS key f b i z := by
  have zo : ∀ q, f + i ≤ q → z q = y q := fun q h => hp.out q (by omega)
  refine ⟨hh, fun p q h1 h2 h3 => ?_, fun p q h1 h2 h3 => ?_⟩
  · rw [zo p h1, zo q (by omega)]; exact hs p q h1 h2 h3
  · obtain ⟨k, k1, k2, k3⟩ := hp.mem (show f ≤ f + p by omega) (by omega)
    rw [k3, zo q h2]
    have := hu (k - f) q (by omega) h2 h3
    rwa [show f + (k - f) = k by omega] at this
theorem HS.end {f b : Nat} {y : Nat → Nat} (h : HS key f b 0 y) : Srt key f b y := h.srt
structure Prt (key : Nat → Int) (a m b : Nat) (y : Nat → Nat) : Prop where
  lo : ∀ k, a ≤ k → k < m → key (y k) ≤ key (y m)
  hi : ∀ k, m < k → k < b → key (y m) ≤ key (y k)
theorem Prt.srt {a m b : Nat} {y : Nat → Nat} (h : Prt key a m b y) (h1 : Srt key a m y) (h2 : Srt key (m + 1) b y) (ha : a ≤ m) : Srt key a b y := by
  intro p q h3 h4 h5
  by_cases e1 : q < m
  · exact h1 p q h3 h4 e1
  · by_cases e2 : q = m
    · subst e2; exact h.lo p h3 h4
    · by_cases e3 : p < m
      · exact Int.le_trans (h.lo p h3 e3) (h.hi q (by omega) h5)
      · by_cases e4 : p = m
        · subst e4; exact h.hi q (by omega) h5
        · exact h2 p q (by omega) h4 h5
theorem Prt.pe {a m b c d : Nat} {y z : Nat → Nat} (h : Prt key a m b y) (hp : PE c d y z) (hcd : (a ≤ c ∧ c ≤ d ∧ d ≤ m) ∨ (m < c ∧ c ≤ d ∧ d ≤ b)) : Prt key a m b z := by
  have zm : z m = y m := hp.out m (by omega)
  refine ⟨fun k h1 h2 => ?_, fun k h1 h2 => ?_⟩
  · rw [zm]
    by_cases e : c ≤ k ∧ k < d
    · obtain ⟨k', k1, k2, k3⟩ := hp.mem e.1 e.2
      rw [k3]; exact h.lo k' (by omega) (by omega)
    · rw [hp.out k e]; exact h.lo k h1 h2
  · rw [zm]
    by_cases e : c ≤ k ∧ k < d
    · obtain ⟨k', k1, k2, k3⟩ := hp.mem e.1 e.2
      rw [k3]; exact h.hi k' (by omega) (by omega)
    · rw [hp.out k e]; exact h.hi k h1 h2
def Blw (key : Nat → Int) (a b : Nat) (y : Nat → Nat) : Prop := ∀ k, 0 < a → a ≤ k → k < b → key (y (a - 1)) ≤ key (y k)
theorem Blw.pe {a b : Nat} {y z : Nat → Nat} (h : Blw key a b y) (hp : PE a b y z) : Blw key a b z := by
  intro k h0 h1 h2
  rw [hp.out (a - 1) (by omega)]
  obtain ⟨k', k1, k2, k3⟩ := hp.mem h1 h2
  rw [k3]; exact h k' h0 k1 k2
end
end Go.Proofs.Ytbamjcnhmmgnlaa
set_option linter.unusedSimpArgs false
set_option linter.unusedVariables false
namespace Go.Proofs.Ytbamjcnhmmgnlaa
open Go.Proofs.Ytbamjcnhmmgnlaa.AL
end Go.Proofs.Ytbamjcnhmmgnlaa
set_option linter.unusedSimpArgs false
set_option linter.unusedVariables false
namespace Go.Proofs.Ytbamjcnhmmgnlaa
open Go.Proofs.Ytbamjcnhmmgnlaa.AL
end Go.Proofs.Ytbamjcnhmmgnlaa
set_option linter.unusedSimpArgs false
set_option linter.unusedVariables false
namespace Go.Proofs.Ytbamjcnhmmgnlaa
open Go.Shelf Go.Proofs Go.Proofs.Ytbamjcnhmmgnlaa.AL
end Go.Proofs.Ytbamjcnhmmgnlaa
set_option linter.unusedSimpArgs false
set_option linter.unusedVariables false
namespace Go.Proofs.Ytbamjcnhmmgnlaa
open Go.Proofs.Ytbamjcnhmmgnlaa.AL
end Go.Proofs.Ytbamjcnhmmgnlaa
set_option linter.unusedSimpArgs false
set_option linter.unusedVariables false
namespace Go.Proofs.Ytbamjcnhmmgnlaa
open Go.Proofs.Ytbamjcnhmmgnlaa.AL
structure PI (key : Nat → Int) (a b : Nat) (x y : Nat → Nat) (i q : Nat) : Prop where
  h1 : a + 1 ≤ i
  h2 : i ≤ q
  h3 : q ≤ b
  pe : PE a b x y
  lo : ∀ k, a + 1 ≤ k → k < i → key (y k) < key (y a)
  hi : ∀ k, q ≤ k → k < b → key (y a) ≤ key (y k)
theorem PI.start {key : Nat → Int} {a b p : Nat} {x : Nat → Nat} (h : a < b) (h1 : a ≤ p) (h2 : p < b) : PI key a b x (swp x a p) (a + 1) b :=
  ⟨Nat.le_refl _, h, Nat.le_refl _, PE.swp (Nat.le_refl _) h h1 h2, fun k k1 k2 => by omega, fun k k1 k2 => by omega⟩
theorem PI.up {key : Nat → Int} {a b i q : Nat} {x y : Nat → Nat} (h : PI key a b x y i q) (hl : i < q) (hk : key (y i) < key (y a)) : PI key a b x y (i + 1) q :=
  ⟨by have := h.h1; omega, hl, h.h3, h.pe, fun k k1 k2 => by
    by_cases e : k = i
    · subst e; exact hk
    · exact h.lo k k1 (by omega), h.hi⟩
theorem PI.swap {key : Nat → Int} {a b i q : Nat} {x y : Nat → Nat} (h : PI key a b x y i (q + 1)) (hl : i ≤ q) (hi : ¬ key (y i) < key (y a)) (hq : key (y q) < key (y a)) : i + 1 ≤ q ∧ PI key a b x (swp y i q) (i + 1) q := by
  have hne : i ≠ q := fun e => by subst e; exact hi hq
  have g1 := h.h1; have g3 := h.h3
  have ea : swp y i q a = y a := swp_o _ (by omega) (by omega)
  refine ⟨by omega, by omega, by omega, by omega, h.pe.trans (PE.swp (by omega) (by omega) (by omega) (by omega)), fun k k1 k2 => ?_, fun k k1 k2 => ?_⟩
  · rw [ea]
    by_cases e : k = i
    · subst e; rw [swp_l]; exact hq
    · rw [swp_o _ e (by omega)]; exact h.lo k k1 (by omega)
  · rw [ea]
    by_cases e : k = q
    · subst e; rw [swp_r]; omega
    · rw [swp_o _ (by omega) e]; exact h.hi k (by omega) k2
theorem PI.done {key : Nat → Int} {a b q : Nat} {x y : Nat → Nat} (h : PI key a b x y (q + 1) (q + 1)) : a ≤ q ∧ q < b ∧ PE a b x (swp y q a) ∧ Prt key a q b (swp y q a) := by
  have g1 := h.h1; have g3 := h.h3
  have em : swp y q a q = y a := swp_l _ _ _
  refine ⟨by omega, by omega, h.pe.trans (PE.swp (by omega) (by omega) (by omega) (by omega)), ⟨fun k k1 k2 => ?_, fun k k1 k2 => ?_⟩⟩
  · rw [em]
    by_cases e : k = a
    · subst e; rw [swp_r]; exact Int.le_of_lt (h.lo q (by omega) (by omega))
    · rw [swp_o _ (by omega) e]; exact Int.le_of_lt (h.lo k (by omega) (by omega))
  · rw [em, swp_o _ (by omega) (by omega)]
    exact h.hi k (by omega) k2
end Go.Proofs.Ytbamjcnhmmgnlaa
set_option linter.unusedSimpArgs false
set_option linter.unusedVariables false
namespace Go.Proofs.Ytbamjcnhmmgnlaa
open Go.Proofs.Ytbamjcnhmmgnlaa.AL
structure PA (key : Nat → Int) (a b : Nat) (x : Nat → Nat) (i : Nat) (y : Nat → Nat) : Prop where
  h1 : a + 1 ≤ i
  h2 : i ≤ b
  pe : PE a b x y
  st : Srt key a i y
theorem PA.up {key : Nat → Int} {a b i : Nat} {x y : Nat → Nat} (h : PA key a b x i y) (hl : i < b) (hk : ¬ key (y i) < key (y (i - 1))) : PA key a b x (i + 1) y := by
  refine ⟨by have := h.h1; omega, hl, h.pe, fun p q h1 h2 h3 => ?_⟩
  have := h.h1
  by_cases e : q = i
  · subst e
    by_cases e2 : p = q - 1
    · subst e2; omega
    · have := h.st p (q - 1) h1 (by omega) (by omega); omega
  · exact h.st p q h1 h2 (by omega)
theorem PA.swap {key : Nat → Int} {a b i : Nat} {x y : Nat → Nat} (h : PA key a b x i y) (hl : i < b) : PE a b x (swp y i (i - 1)) ∧ Srt key a (i - 1) (swp y i (i - 1)) := by
  have := h.h1
  refine ⟨h.pe.trans (PE.swp (by omega) (by omega) (by omega) (by omega)), fun p q h1 h2 h3 => ?_⟩
  rw [swp_o _ (by omega) (by omega), swp_o _ (by omega) (by omega)]
  exact h.st p q h1 h2 (by omega)
end Go.Proofs.Ytbamjcnhmmgnlaa
set_option linter.unusedSimpArgs false
set_option linter.unusedVariables false
namespace Go.Proofs.Ytbamjcnhmmgnlaa
open Go.Proofs.Ytbamjcnhmmgnlaa.AL
structure PD (key : Nat → Int) (n N a b : Nat) (x : Nat → Nat) (a' b' : Nat) (y : Nat → Nat) : Prop where
  h1 : a ≤ a'
  h2 : a' ≤ b'
  h3 : b' ≤ b
  pe : PE a b x y
  bl : Blw key a' b' y
  fin : ∀ z, PE a' b' y z → Srt key a' b' z → Srt key a b z
theorem PD.left {key : Nat → Int} {n N a b a' b' m : Nat} {x y z : Nat → Nat} (h : PD key n N a b x a' b' y) (hm : a' ≤ m) (hm2 : m < b') (hp : Prt key a' m b' y) (h1 : PE a' m y z) (h2 : Srt key a' m z) : PD key n N a b x (m + 1) b' z := by
  have hpz := hp.pe h1 (.inl ⟨Nat.le_refl _, hm, Nat.le_refl _⟩)
  have g1 := h.h1; have g3 := h.h3
  refine ⟨by omega, by omega, g3, h.pe.trans (h1.widen g1 hm (by omega)), fun k k0 k1 k2 => by rw [Nat.add_sub_cancel]; exact hpz.hi k (by omega) k2, fun u u1 u2 => ?_⟩
  refine h.fin u ((h1.widen (Nat.le_refl _) hm (by omega)).trans (u1.widen (by omega) (by omega) (Nat.le_refl _))) ?_
  refine (hpz.pe u1 (.inr ⟨by omega, by omega, Nat.le_refl _⟩)).srt (fun p q q1 q2 q3 => ?_) u2 hm
  rw [u1.out p (by omega), u1.out q (by omega)]
  exact h2 p q q1 q2 q3
theorem PD.right {key : Nat → Int} {n N a b a' b' m : Nat} {x y z : Nat → Nat} (h : PD key n N a b x a' b' y) (hm : a' ≤ m) (hm2 : m < b') (hp : Prt key a' m b' y) (h1 : PE (m + 1) b' y z) (h2 : Srt key (m + 1) b' z) : PD key n N a b x a' m z := by
  have hpz := hp.pe h1 (.inr ⟨by omega, by omega, Nat.le_refl _⟩)
  have g1 := h.h1; have g3 := h.h3
  refine ⟨g1, hm, by omega, h.pe.trans (h1.widen (by omega) (by omega) g3), fun k k0 k1 k2 => ?_, fun u u1 u2 => ?_⟩
  · rw [h1.out (a' - 1) (by omega), h1.out k (by omega)]
    exact h.bl k k0 k1 (by omega)
  · refine h.fin u ((h1.widen (by omega) (by omega) (Nat.le_refl _)).trans (u1.widen (Nat.le_refl _) hm (by omega))) ?_
    refine (hpz.pe u1 (.inl ⟨Nat.le_refl _, hm, Nat.le_refl _⟩)).srt u2 (fun p q q1 q2 q3 => ?_) hm
    rw [u1.out p (by omega), u1.out q (by omega)]
    exact h2 p q q1 q2 q3
end Go.Proofs.Ytbamjcnhmmgnlaa
set_option linter.unusedSimpArgs false
set_option linter.unusedVariables false
namespace Go.Proofs.Ytbamjcnhmmgnlaa.AL
open Go
end Go.Proofs.Ytbamjcnhmmgnlaa.AL
set_option linter.unusedSimpArgs false
set_option linter.unusedVariables false
namespace Go.Proofs.Ytbamjcnhmmgnlaa
open Go.Proofs.Ytbamjcnhmmgnlaa.AL
end Go.Proofs.Ytbamjcnhmmgnlaa
set_option linter.unusedSimpArgs false
set_option linter.unusedVariables false
namespace Go.Proofs.Ytbamjcnhmmgnlaa
open Go.Proofs.Ytbamjcnhmmgnlaa.AL
end Go.Proofs.Ytbamjcnhmmgnlaa
set_option linter.unusedSimpArgs false
set_option linter.unusedVariables false
namespace Go.Proofs.Ytbamjcnhmmgnlaa
open Go.Proofs.Ytbamjcnhmmgnlaa.AL
end Go.Proofs.Ytbamjcnhmmgnlaa
set_option linter.unusedSimpArgs false
set_option linter.unusedVariables false
namespace Go.Proofs.Ytbamjcnhmmgnlaa
open Go.Proofs.Ytbamjcnhmmgnlaa.AL
def findO (l : List Rule) (h : BitVec 128) : List Nat → Option Nat
  | [] => none
  | n :: r => if hasC (l.getD n r0).mt h then some n else findO l h r
def findR (l : List Rule) (h : BitVec 128) : Option Nat := findO l h (orderR l)
def findI (l : List Rule) (h : BitVec 128) (R : Option Nat) (s : {i : Nat // i ≤ l.length ∧ findO l h ((orderR l).drop i) = R}) : ASt :=
  ⟨[(11, .p (.d (.v (.int .i64 (s.val : Int))))), (10, .p (.d (.v (.int .i64 (l.length : Int))))), (9, .p (.d (.sl 1 l.length (rowI (orderR l))))), (3, .p (.d (.bx (hd h)))), (0, .p (.d (.sl 12 l.length (rowR l))))], []⟩
end Go.Proofs.Ytbamjcnhmmgnlaa
set_option linter.unusedSimpArgs false
set_option linter.unusedVariables false
namespace Go.Proofs.Ytbamjcnhmmgnlaa
open Go.Proofs.Ytbamjcnhmmgnlaa.AL Go.RowKit
end Go.Proofs.Ytbamjcnhmmgnlaa
set_option linter.unusedSimpArgs false
set_option linter.unusedVariables false
namespace Go.Proofs.Ytbamjcnhmmgnlaa
open Go.Proofs.Ytbamjcnhmmgnlaa.AL
end Go.Proofs.Ytbamjcnhmmgnlaa
set_option linter.unusedSimpArgs false
set_option linter.unusedVariables false
namespace Go.Proofs.Ytbamjcnhmmgnlaa
open Go.Proofs.Ytbamjcnhmmgnlaa.AL
def other (r b : Cube) (n : Nat) : Cube := ⟨(r.v ||| (b.v &&& (ones 1 <<< n))) ^^^ (ones 1 <<< n), r.c ||| (ones 1 <<< n)⟩
end Go.Proofs.Ytbamjcnhmmgnlaa
set_option linter.unusedSimpArgs false
set_option linter.unusedVariables false
namespace Go.Proofs.Ytbamjcnhmmgnlaa
open Go.Proofs.Ytbamjcnhmmgnlaa.AL
theorem bool_iff {x y : Bool} (h : x = true ↔ y = true) : x = y := by cases x <;> cases y <;> simp at h <;> rfl
end Go.Proofs.Ytbamjcnhmmgnlaa
set_option linter.unusedSimpArgs false
set_option linter.unusedVariables false
namespace Go.Proofs.Ytbamjcnhmmgnlaa
open Go.Proofs.Ytbamjcnhmmgnlaa.AL
theorem hasT_sound {k : Cube} (hk : k.sound = true) (h : BitVec 128) : hasT k h = hasC k h := by
  have a : k.v &&& k.c = k.v := by
    have := (sound_iff k).1 hk
    apply BitVec.eq_of_getLsbD_eq
    intro i hlt
    rw [BitVec.getLsbD_and]
    cases hv : k.v.getLsbD i
    · rfl
    · rw [this i hlt hv]; rfl
  unfold hasT hasC
  rw [hk, a, Bool.true_and]
end Go.Proofs.Ytbamjcnhmmgnlaa
set_option linter.unusedSimpArgs false
set_option linter.unusedVariables false
namespace Go.Proofs.Ytbamjcnhmmgnlaa
open Go.Proofs.Ytbamjcnhmmgnlaa.AL
end Go.Proofs.Ytbamjcnhmmgnlaa
set_option linter.unusedSimpArgs false
set_option linter.unusedVariables false
namespace Go.Proofs.Ytbamjcnhmmgnlaa
open Go.Proofs.Ytbamjcnhmmgnlaa.AL
end Go.Proofs.Ytbamjcnhmmgnlaa
set_option linter.unusedSimpArgs false
set_option linter.unusedVariables false
namespace Go.Proofs.Ytbamjcnhmmgnlaa
open Go.Proofs.Ytbamjcnhmmgnlaa.AL
end Go.Proofs.Ytbamjcnhmmgnlaa
set_option linter.unusedSimpArgs false
set_option linter.unusedVariables false
namespace Go.Proofs.Ytbamjcnhmmgnlaa
open Go.Proofs.Ytbamjcnhmmgnlaa.AL
end Go.Proofs.Ytbamjcnhmmgnlaa
set_option linter.unusedSimpArgs false
set_option linter.unusedVariables false
namespace Go.Proofs.Ytbamjcnhmmgnlaa
open Go.Proofs.Ytbamjcnhmmgnlaa.AL
end Go.Proofs.Ytbamjcnhmmgnlaa
set_option linter.unusedSimpArgs false
set_option linter.unusedVariables false
namespace Go.Proofs.Ytbamjcnhmmgnlaa
open Go.Proofs.Ytbamjcnhmmgnlaa.AL
end Go.Proofs.Ytbamjcnhmmgnlaa
set_option linter.unusedSimpArgs false
set_option linter.unusedVariables false
namespace Go.Proofs.Ytbamjcnhmmgnlaa
open Go.Proofs.Ytbamjcnhmmgnlaa.AL
end Go.Proofs.Ytbamjcnhmmgnlaa
set_option linter.unusedSimpArgs false
set_option linter.unusedVariables false
namespace Go.Proofs.Ytbamjcnhmmgnlaa
open Go.Proofs.Ytbamjcnhmmgnlaa.AL
end Go.Proofs.Ytbamjcnhmmgnlaa
set_option linter.unusedSimpArgs false
set_option linter.unusedVariables false
namespace Go.Proofs.Ytbamjcnhmmgnlaa
open Go.Proofs.Ytbamjcnhmmgnlaa.AL
def bestH (l : List Rule) (h : BitVec 128) (i : Nat) : Option Nat := bestTo (fun i => !hasC (l.getD i r0).mt h) (fun i => l.getD i r0) i
def rfI (l : List Rule) (h : BitVec 128) (i : {i : Nat // i ≤ l.length}) : ASt :=
  ⟨[(7, .p (.d (.v (.int .i64 (i.val : Int))))), (6, .p (.d (.v (.int .i64 (bestI (bestH l h i.val)))))), (3, .p (.d (.bx (hd h)))), (0, .p (.d (.sl 12 l.length (rowR l))))], []⟩
theorem bestH_lt {l : List Rule} {h : BitVec 128} {i b : Nat} (e : bestH l h i = some b) : b < i := by
  have sp := bestTo_spec (fun i => !hasC (l.getD i r0).mt h) (fun i => l.getD i r0) i
  unfold bestH at e
  rw [e] at sp
  exact sp.1
theorem bestH_succ (l : List Rule) (h : BitVec 128) (i : Nat) : bestH l h (i + 1) = match bestH l h i with
    | none => if hasC (l.getD i r0).mt h then some i else none
    | some b => if hasC (l.getD i r0).mt h then (if (l.getD b r0).pr < (l.getD i r0).pr then some i else some b) else some b := by
  unfold bestH
  rw [bestTo_succ]
  cases bestTo (fun i => !hasC (l.getD i r0).mt h) (fun i => l.getD i r0) i <;> cases hasC (l.getD i r0).mt h <;> rfl
set_option maxRecDepth 100000 in
set_option maxHeartbeats 4000000 in
theorem FindRef_c (l : List Rule) (h : BitVec 128) (hl : l.length ≤ 1099511627776) : ACalls Try.prog 66 [.d (.sl 12 l.length (rowR l)), .agg (hd h)]
    (· = [.d (.v (.int .i64 (((bestH l h l.length).getD 0 : Nat) : Int))), .d (.v (.bool (bestH l h l.length).isSome))]) := by
  refine q11 Try.func66 rfl (by decide +kernel) (by rw [Try.ntmps66]; simp) ?_; rw [Try.ntmps66]; simp only [frOf]
  (repeat (first | refine j0 ?_ | refine q7 rfl ?_ | refine z7 rfl ?_ | refine x6 ?_ | (refine z5 fun K hK => ?_) | (refine j5 (by kernel_rfl) (by kernel_rfl) fun K hK => ?_) | ((first | refine q6 ?_ | refine z6 ?_ | ((first | refine z3 (hK _ ?_) | refine j4 (hK _ _ (z4 (by kernel_rfl)) ?_)); clear hK K)); (first | show AWP _ _ _ _ _ | ((try simp only [j6]); first | show loopQ _ _ _ _ _ _ | show cutQ _ _ _ _ | show AWP _ _ _ _ _))) | ((first | refine x7 [] rfl ?_ | refine j7 [] rfl ?_); simp (maxSteps := 2000000) (disch := omega) only [go_sem, seval, hd, cb, ruleD]; (repeat (first | refine ⟨by omega, ?_⟩ | refine ⟨True.intro, ?_⟩)))))
  refine awp_loop (rfI l h) (fun s => l.length - s.val) ⟨0, by omega⟩ ?_ (fun s => ?_)
  · unfold rfI
    refine Weak.list ?_ ?_; (all_goals simp (disch := omega) only [AllF, AllL, q10, z10, j9, exists_eq_left', Option.some.injEq, go_sem, seval, hd, cb, ruleD]); (all_goals (repeat' (with_reducible apply And.intro))); (all_goals try (first | exact q8 rfl | (refine x10 ?_; omega) | (refine q8 ?_; simp; done)))
  obtain ⟨i, hi⟩ := s
  unfold rfI
  have sc := bestH_succ l h i
  have lt := fun b => @bestH_lt l h i b
  by_cases hn : i < l.length
  · have r1 := rowR_at l i
    have lk : ∀ b, rowR l b = ruleD (l.getD b r0) := rowR_at l
    generalize l.getD i r0 = x at r1 sc
    have tc := Text_c x.mt
    unfold cb at tc
    cases hs : x.mt.sound
    · have hh : hasC x.mt h = false := by unfold hasC; rw [hs]; rfl
      rw [hs] at tc
      rw [hh] at sc
      simp only [Bool.false_eq_true, if_false] at tc sc
      have sc' : bestH l h (i + 1) = bestH l h i := by rw [sc]; cases bestH l h i <;> rfl
      (repeat (first | refine j0 ?_ | refine q7 rfl ?_ | refine z7 rfl ?_ | refine x6 ?_ | (refine z5 fun K hK => ?_) | (refine j5 (by kernel_rfl) (by kernel_rfl) fun K hK => ?_) | ((first | refine q6 ?_ | refine z6 ?_ | ((first | refine z3 (hK _ ?_) | refine j4 (hK _ _ (z4 (by kernel_rfl)) ?_)); clear hK K)); (first | show AWP _ _ _ _ _ | ((try simp only [j6]); first | show loopQ _ _ _ _ _ _ | show cutQ _ _ _ _ | show AWP _ _ _ _ _))) | ((first | refine z9 rfl rfl rfl ?_ | refine x9 rfl rfl rfl ?_); simp (maxSteps := 2000000) (disch := omega) only [go_sem, seval, hd, cb, ruleD, r1]; (first | refine ⟨_, tc, ?_⟩)) | ((first | refine x7 [] rfl ?_ | refine j7 [] rfl ?_); simp (maxSteps := 2000000) (disch := omega) only [go_sem, seval, hd, cb, ruleD, r1]; (repeat (first | refine ⟨by omega, ?_⟩ | refine ⟨True.intro, ?_⟩)))))
      refine ⟨⟨i + 1, by omega⟩, by simp only []; omega, ?_⟩
      simp only [sc']
      refine Weak.list ?_ ?_; (all_goals simp (disch := omega) only [AllF, AllL, q10, z10, j9, exists_eq_left', Option.some.injEq, go_sem, seval, hd, cb, ruleD, r1]); (all_goals (repeat' (with_reducible apply And.intro))); (all_goals try (first | exact q8 rfl | (refine x10 ?_; omega) | (refine q8 ?_; simp; done)))
    · rw [hs] at tc
      simp only [if_true] at tc
      have hc := Hast_c x.mt h
      rw [hasT_sound hs] at hc
      cases hh : hasC x.mt h
      · rw [hh] at sc hc
        simp only [Bool.false_eq_true, if_false] at sc
        have sc' : bestH l h (i + 1) = bestH l h i := by rw [sc]; cases bestH l h i <;> rfl
        generalize txt x.mt = tx at tc hc
        (repeat (first | refine j0 ?_ | refine q7 rfl ?_ | refine z7 rfl ?_ | refine x6 ?_ | (refine z5 fun K hK => ?_) | (refine j5 (by kernel_rfl) (by kernel_rfl) fun K hK => ?_) | ((first | refine q6 ?_ | refine z6 ?_ | ((first | refine z3 (hK _ ?_) | refine j4 (hK _ _ (z4 (by kernel_rfl)) ?_)); clear hK K)); (first | show AWP _ _ _ _ _ | ((try simp only [j6]); first | show loopQ _ _ _ _ _ _ | show cutQ _ _ _ _ | show AWP _ _ _ _ _))) | ((first | refine z9 rfl rfl rfl ?_ | refine x9 rfl rfl rfl ?_); simp (maxSteps := 2000000) (disch := omega) only [go_sem, seval, hd, cb, ruleD, r1]; (first | refine ⟨_, tc, ?_⟩ | refine ⟨_, hc, ?_⟩)) | ((first | refine x7 [] rfl ?_ | refine j7 [] rfl ?_); simp (maxSteps := 2000000) (disch := omega) only [go_sem, seval, hd, cb, ruleD, r1]; (repeat (first | refine ⟨by omega, ?_⟩ | refine ⟨True.intro, ?_⟩)))))
        refine ⟨⟨i + 1, by omega⟩, by simp only []; omega, ?_⟩
        simp only [sc']
        refine Weak.list ?_ ?_; (all_goals simp (disch := omega) only [AllF, AllL, q10, z10, j9, exists_eq_left', Option.some.injEq, go_sem, seval, hd, cb, ruleD, r1]); (all_goals (repeat' (with_reducible apply And.intro))); (all_goals try (first | exact q8 rfl | (refine x10 ?_; omega) | (refine q8 ?_; simp; done)))
      · rw [hh] at sc hc
        simp only [if_true] at sc
        generalize txt x.mt = tx at tc hc
        cases hb : bestH l h i with
        | none =>
          rw [hb] at sc
          simp only [] at sc
          (repeat (first | refine j0 ?_ | refine q7 rfl ?_ | refine z7 rfl ?_ | refine x6 ?_ | (refine z5 fun K hK => ?_) | (refine j5 (by kernel_rfl) (by kernel_rfl) fun K hK => ?_) | ((first | refine q6 ?_ | refine z6 ?_ | ((first | refine z3 (hK _ ?_) | refine j4 (hK _ _ (z4 (by kernel_rfl)) ?_)); clear hK K)); (first | show AWP _ _ _ _ _ | ((try simp only [j6]); first | show loopQ _ _ _ _ _ _ | show cutQ _ _ _ _ | show AWP _ _ _ _ _))) | ((first | refine z9 rfl rfl rfl ?_ | refine x9 rfl rfl rfl ?_); simp (maxSteps := 2000000) (disch := omega) only [go_sem, seval, hd, cb, ruleD, r1, bestI]; (first | refine ⟨_, tc, ?_⟩ | refine ⟨_, hc, ?_⟩)) | ((first | refine x7 [] rfl ?_ | refine j7 [] rfl ?_); simp (maxSteps := 2000000) (disch := omega) only [go_sem, seval, hd, cb, ruleD, r1, bestI]; (repeat (first | refine ⟨by omega, ?_⟩ | refine ⟨True.intro, ?_⟩)))))
          refine ⟨⟨i + 1, by omega⟩, by simp only []; omega, ?_⟩
          simp only [sc]
          refine Weak.list ?_ ?_; (all_goals simp (disch := omega) only [AllF, AllL, q10, z10, j9, exists_eq_left', Option.some.injEq, go_sem, seval, hd, cb, ruleD, r1, bestI]); (all_goals (repeat' (with_reducible apply And.intro))); (all_goals try (first | exact q8 rfl | (refine x10 ?_; omega) | (refine q8 ?_; simp; done)))
        | some b =>
          have hlt := lt b hb
          rw [hb] at sc
          simp only [] at sc
          have r2 := lk b
          generalize l.getD b r0 = y at r2 sc
          by_cases hp : y.pr < x.pr
          · rw [if_pos hp] at sc
            (repeat (first | refine j0 ?_ | refine q7 rfl ?_ | refine z7 rfl ?_ | refine x6 ?_ | (refine z5 fun K hK => ?_) | (refine j5 (by kernel_rfl) (by kernel_rfl) fun K hK => ?_) | ((first | refine q6 ?_ | refine z6 ?_ | ((first | refine z3 (hK _ ?_) | refine j4 (hK _ _ (z4 (by kernel_rfl)) ?_)); clear hK K)); (first | show AWP _ _ _ _ _ | ((try simp only [j6]); first | show loopQ _ _ _ _ _ _ | show cutQ _ _ _ _ | show AWP _ _ _ _ _))) | ((first | refine z9 rfl rfl rfl ?_ | refine x9 rfl rfl rfl ?_); simp (maxSteps := 2000000) (disch := omega) only [go_sem, seval, hd, cb, ruleD, r1, r2, bestI]; (first | refine ⟨_, tc, ?_⟩ | refine ⟨_, hc, ?_⟩)) | ((first | refine x7 [] rfl ?_ | refine j7 [] rfl ?_); simp (maxSteps := 2000000) (disch := omega) only [go_sem, seval, hd, cb, ruleD, r1, r2, bestI]; (repeat (first | refine ⟨by omega, ?_⟩ | refine ⟨True.intro, ?_⟩)))))
            refine ⟨⟨i + 1, by omega⟩, by simp only []; omega, ?_⟩
            simp only [sc]
            refine Weak.list ?_ ?_; (all_goals simp (disch := omega) only [AllF, AllL, q10, z10, j9, exists_eq_left', Option.some.injEq, go_sem, seval, hd, cb, ruleD, r1, r2, bestI]); (all_goals (repeat' (with_reducible apply And.intro))); (all_goals try (first | exact q8 rfl | (refine x10 ?_; omega) | (refine q8 ?_; simp; done)))
          · rw [if_neg hp] at sc
            (repeat (first | refine j0 ?_ | refine q7 rfl ?_ | refine z7 rfl ?_ | refine x6 ?_ | (refine z5 fun K hK => ?_) | (refine j5 (by kernel_rfl) (by kernel_rfl) fun K hK => ?_) | ((first | refine q6 ?_ | refine z6 ?_ | ((first | refine z3 (hK _ ?_) | refine j4 (hK _ _ (z4 (by kernel_rfl)) ?_)); clear hK K)); (first | show AWP _ _ _ _ _ | ((try simp only [j6]); first | show loopQ _ _ _ _ _ _ | show cutQ _ _ _ _ | show AWP _ _ _ _ _))) | ((first | refine z9 rfl rfl rfl ?_ | refine x9 rfl rfl rfl ?_); simp (maxSteps := 2000000) (disch := omega) only [go_sem, seval, hd, cb, ruleD, r1, r2, bestI]; (first | refine ⟨_, tc, ?_⟩ | refine ⟨_, hc, ?_⟩)) | ((first | refine x7 [] rfl ?_ | refine j7 [] rfl ?_); simp (maxSteps := 2000000) (disch := omega) only [go_sem, seval, hd, cb, ruleD, r1, r2, bestI]; (repeat (first | refine ⟨by omega, ?_⟩ | refine ⟨True.intro, ?_⟩)))))
            refine ⟨⟨i + 1, by omega⟩, by simp only []; omega, ?_⟩
            simp only [sc]
            refine Weak.list ?_ ?_; (all_goals simp (disch := omega) only [AllF, AllL, q10, z10, j9, exists_eq_left', Option.some.injEq, go_sem, seval, hd, cb, ruleD, r1, r2, bestI]); (all_goals (repeat' (with_reducible apply And.intro))); (all_goals try (first | exact q8 rfl | (refine x10 ?_; omega) | (refine q8 ?_; simp; done)))
  · have : i = l.length := by omega
    subst this
    cases hb : bestH l h l.length with
    | none =>
      (repeat (first | refine j0 ?_ | refine q7 rfl ?_ | refine z7 rfl ?_ | refine x6 ?_ | (refine z5 fun K hK => ?_) | (refine j5 (by kernel_rfl) (by kernel_rfl) fun K hK => ?_) | ((first | refine q6 ?_ | refine z6 ?_ | ((first | refine z3 (hK _ ?_) | refine j4 (hK _ _ (z4 (by kernel_rfl)) ?_)); clear hK K)); (first | show AWP _ _ _ _ _ | ((try simp only [j6]); first | show loopQ _ _ _ _ _ _ | show cutQ _ _ _ _ | show AWP _ _ _ _ _))) | ((first | refine x7 [] rfl ?_ | refine j7 [] rfl ?_); simp (maxSteps := 2000000) (disch := omega) only [go_sem, seval, hd, cb, ruleD, bestI]; (repeat (first | refine ⟨by omega, ?_⟩ | refine ⟨True.intro, ?_⟩)))))
      refine j8 ⟨_, ?_, rfl⟩; rw [Try.results66]; simp (disch := omega) only [ResVars, ResVar, ptrLoc, go_sem, seval, hd, cb, ruleD, bestI]
    | some b =>
      have q : decide ((b : Int) < 0) = false := decide_eq_false (by omega)
      (repeat (first | refine j0 ?_ | refine q7 rfl ?_ | refine z7 rfl ?_ | refine x6 ?_ | (refine z5 fun K hK => ?_) | (refine j5 (by kernel_rfl) (by kernel_rfl) fun K hK => ?_) | ((first | refine q6 ?_ | refine z6 ?_ | ((first | refine z3 (hK _ ?_) | refine j4 (hK _ _ (z4 (by kernel_rfl)) ?_)); clear hK K)); (first | show AWP _ _ _ _ _ | ((try simp only [j6]); first | show loopQ _ _ _ _ _ _ | show cutQ _ _ _ _ | show AWP _ _ _ _ _))) | ((first | refine x7 [] rfl ?_ | refine j7 [] rfl ?_); simp (maxSteps := 2000000) (disch := omega) only [go_sem, seval, hd, cb, ruleD, bestI]; (repeat (first | refine ⟨by omega, ?_⟩ | refine ⟨True.intro, ?_⟩)))))
      refine j8 ⟨_, ?_, rfl⟩; rw [Try.results66]; simp (disch := omega) only [ResVars, ResVar, ptrLoc, go_sem, seval, hd, cb, ruleD, bestI]
theorem find_best (l : List Rule) (h : BitVec 128) : findR l h = bestH l h l.length := by
  have sp := bestTo_spec (fun i => !hasC (l.getD i r0).mt h) (fun i => l.getD i r0) l.length
  unfold findR bestH
  have go : ∀ o : List Nat, o.Pairwise (ltR l) → (∀ q, q < l.length → hasC (l.getD q r0).mt h = true → q ∈ o) → (∀ q ∈ o, q < l.length) → findO l h o = bestTo (fun i => !hasC (l.getD i r0).mt h) (fun i => l.getD i r0) l.length := by
    intro o
    induction o with
    | nil =>
      intro _ h2 _
      unfold findO
      cases hb : bestTo (fun i => !hasC (l.getD i r0).mt h) (fun i => l.getD i r0) l.length with
      | none => rfl
      | some p =>
        rw [hb] at sp
        have := h2 p sp.1 (by simpa using sp.2.1)
        cases this
    | cons n r ih =>
      intro h1 h2 h3
      obtain ⟨p1, p2⟩ := List.pairwise_cons.1 h1
      unfold findO
      cases hn : hasC (l.getD n r0).mt h
      · simp only [Bool.false_eq_true, if_false]
        refine ih p2 (fun q hq hq2 => ?_) (fun q hq => h3 q (by simp [hq]))
        rcases List.mem_cons.1 (h2 q hq hq2) with e | e
        · subst e; rw [hn] at hq2; cases hq2
        · exact e
      · simp only [if_true]
        cases hb : bestTo (fun i => !hasC (l.getD i r0).mt h) (fun i => l.getD i r0) l.length with
        | none =>
          rw [hb] at sp
          have := sp n (h3 n (by simp))
          rw [hn] at this; cases this
        | some p =>
          rw [hb] at sp
          obtain ⟨s1, s2, s3⟩ := sp
          have hp : hasC (l.getD p r0).mt h = true := by simpa using s2
          rcases List.mem_cons.1 (h2 p s1 hp) with e | e
          · rw [e]
          · have l1 := p1 p e
            have := s3 n (h3 n (by simp)) (by rw [hn]; rfl)
            unfold ltR at l1
            omega
  exact go _ (orderR_srt l) (fun q hq _ => orderR_mem.2 hq) (fun q hq => orderR_lt hq)
def rsI (l : List Rule) (n : Nat) (i : {i : Nat // i ≤ (orderR l).idxOf n}) : ASt :=
  ⟨[(7, .p (.d (.v (.int .i64 (i.val : Int))))), (6, .p (.d (.sl 1 l.length (rowI (orderR l))))), (1, .p (.d (.v (.int .i64 (n : Int))))), (0, .p (.d (.sl 12 l.length (rowR l))))], []⟩
end Go.Proofs.Ytbamjcnhmmgnlaa
set_option linter.unusedSimpArgs false
set_option linter.unusedVariables false
namespace Go.Proofs.Ytbamjcnhmmgnlaa
open Go.Proofs.Ytbamjcnhmmgnlaa.AL
theorem findR_lt {l : List Rule} {h : BitVec 128} {a : Nat} (e : findR l h = some a) : a < l.length := by
  rw [find_best] at e
  exact bestH_lt e
end Go.Proofs.Ytbamjcnhmmgnlaa
set_option linter.unusedSimpArgs false
set_option linter.unusedVariables false
namespace Go.Proofs.Ytbamjcnhmmgnlaa
open Go.Proofs.Ytbamjcnhmmgnlaa.AL
def portAt (t : List (List Port)) (n k : Nat) : Port := (t.getD n []).getD k p0
structure Hop where
  sw : Int
  tb : Int
  ru : Int
  h : BitVec 128
def hopD (x : Hop) : List Dat := [.v (.int .i64 x.sw), .v (.int .i64 x.tb), .v (.int .i64 x.ru), .v (.int .u64 (hi x.h)), .v (.int .u64 (lo x.h))]
def hop0 : Hop := ⟨0, 0, 0, 0⟩
def rowH (l : List Hop) : Nat → List Dat := fun i => hopD (l.getD i hop0)
theorem rowH_at (l : List Hop) (i : Nat) : rowH l i = hopD (l.getD i hop0) := rfl
theorem rowH_put (l : List Hop) (x : Hop) (i : Nat) (hlt : i < l.length + 1) : catF l.length (rowH l) (fun i => [hopD x].getD i []) i = rowH (l ++ [x]) i :=
  rowO_put hopD hop0 l x _ rfl i hlt
def stepN (c : Config) (n : Nat) (x : Rule) : Int := if x.kd = 3 then (portAt c.tp n x.pt.toNat).pe else n
def stepT (t : Nat) (x : Rule) : Int := if x.kd = 3 then 0 else if x.kd = 4 then x.tb else t
def stepE (x : Rule) : Int := if x.kd = 4 then 0 else if x.kd = 3 then 0 else if x.kd = 2 then 2 else 1
def stepA (n : Nat) (x : Rule) : Int × Int := if x.kd = 2 then ((n : Int), x.pt) else (0, 0)
end Go.Proofs.Ytbamjcnhmmgnlaa
set_option linter.unusedSimpArgs false
set_option linter.unusedVariables false
namespace Go.Proofs.Ytbamjcnhmmgnlaa
open Go.Proofs.Ytbamjcnhmmgnlaa.AL
structure RunR where
  en : Int
  an : Int
  ap : Int
  hops : List Hop
def tabW (c : Config) (n t : Nat) : List Rule := (c.tb.getD n []).getD t []
def goW (c : Config) : Nat → Nat → Nat → BitVec 128 → List Hop → RunR
  | 0, _, _, _, hops => ⟨4, 0, 0, hops⟩
  | f + 1, n, t, h, hops => match findR (tabW c n t) h with
    | none => ⟨3, 0, 0, hops ++ [⟨n, t, -1, h⟩]⟩
    | some a => if stepE ((tabW c n t).getD a r0) = 0
      then goW c f (stepN c n ((tabW c n t).getD a r0)).toNat (stepT t ((tabW c n t).getD a r0)).toNat (setH h ((tabW c n t).getD a r0).st) (hops ++ [⟨n, t, a, h⟩])
      else ⟨stepE ((tabW c n t).getD a r0), (stepA n ((tabW c n t).getD a r0)).1, (stepA n ((tabW c n t).getD a r0)).2, hops ++ [⟨n, t, a, h⟩]⟩
structure InW (c : Config) (n t : Nat) : Prop where
  n1 : n < c.tb.length
  n2 : n < c.tp.length
  t1 : t < (c.tb.getD n []).length
theorem allF_at {f : Nat → Bool} {n i : Nat} (h : allF f n 0 = true) (hi : i < n) : f i = true := (allF_iff.1 h) i (Nat.zero_le _) hi
theorem sound_parts {c : Config} (h : soundC c = 0) : soundT c.tp = 0 ∧ c.tb.length = c.tp.length ∧ ∀ n, n < c.tb.length → soundTab (c.tb.getD n []) (c.tp.getD n []) = 0 := by
  unfold soundC at h
  split at h
  · rename_i h1; exact absurd h h1
  · rename_i h1
    split at h
    · rename_i h2; exact absurd h h2
    · split at h
      · cases h
      · rename_i h3
        refine ⟨by omega, by omega, fun n hn => ?_⟩
        have go : ∀ (f : Nat → Int) (m i : Nat), errF f m i = 0 → ∀ n, i ≤ n → n < i + m → f n = 0 := by
          intro f m
          induction m with
          | zero => intro i _ n h1 h2; omega
          | succ m ih =>
            intro i he n h1 h2
            unfold errF at he
            split at he
            · rename_i h0
              by_cases e : n = i
              · subst e; first | exact h0 | omega
              · exact ih (i + 1) he n (by omega) (by omega)
            · rename_i h0
              first | exact absurd he h0 | omega
        exact go (tabE c) c.tb.length 0 h n (Nat.zero_le _) (by omega)
theorem soundTab_parts {ts : List (List Rule)} {ps : List Port} (h : soundTab ts ps = 0) : 0 < ts.length ∧ ts.length ≤ 3 ∧ ∀ i k, i < ts.length → k < (ts.getD i []).length → soundR ((ts.getD i []).getD k r0) i ps = true ∧ ((ts.getD i []).getD k r0).tb < ts.length := by
  unfold soundTab at h
  split at h
  · cases h
  · rename_i h1
    split at h
    · cases h
    · split at h
      · rename_i h2
        refine ⟨by omega, by omega, fun i k hi hk => ?_⟩
        have := allF_at h2 hi
        unfold tabOk at this
        have := allF_at this hk
        unfold ruleOk at this
        rw [Bool.and_eq_true, decide_eq_true_iff] at this
        exact this
      · cases h
theorem portT_parts {t : List (List Port)} {n k : Nat} (h : portT t n k = true) (hk : (portAt t n k).kd = 2) : 0 ≤ (portAt t n k).pe ∧ (portAt t n k).pe < t.length := by
  unfold portT at h
  unfold portAt at *
  generalize (t.getD n []).getD k p0 = p at *
  simp only [hk] at h
  simp at h
  omega
theorem does_parts {x : Rule} {t : Nat} {ps : List Port} (h : soundR x t ps = true) : (x.kd = 1 ∨ x.kd = 2 ∨ x.kd = 3 ∨ x.kd = 4) ∧ (x.kd = 3 → 0 ≤ x.pt ∧ x.pt.toNat < ps.length ∧ (ps.getD x.pt.toNat p0).kd = 2) ∧ (x.kd = 4 → (t : Int) < x.tb) := by
  unfold soundR at h
  rw [Bool.and_eq_true] at h
  have h := h.2
  unfold doesR portR at h
  split at h
  · exact ⟨by omega, by omega, by omega⟩
  · split at h
    · exact ⟨by omega, by omega, by omega⟩
    · split at h
      · rename_i h3
        simp only [Bool.and_eq_true, decide_eq_true_iff] at h
        refine ⟨by omega, fun _ => ⟨by omega, by omega, eq_of_beq h.2⟩, by omega⟩
      · split at h
        · rename_i h4
          simp only [Bool.and_eq_true, decide_eq_true_iff] at h
          exact ⟨by omega, by omega, fun _ => h.1.2⟩
        · cases h
theorem step_ends {x : Rule} (h : stepE x = 0) : x.kd = 3 ∨ x.kd = 4 := by
  unfold stepE at h
  repeat (split at h)
  all_goals first | omega | exact absurd h (by decide)
theorem inW_rule {c : Config} (hs : soundC c = 0) {n t a : Nat} {h : BitVec 128} (hw : InW c n t) (hf : findR (tabW c n t) h = some a) : soundR ((tabW c n t).getD a r0) t (c.tp.getD n []) = true ∧ ((tabW c n t).getD a r0).tb < (c.tb.getD n []).length := by
  have hal := findR_lt hf
  exact (soundTab_parts ((sound_parts hs).2.2 n hw.n1)).2.2 t a hw.t1 hal
theorem inW_port {c : Config} (hs : soundC c = 0) {n t a : Nat} {h : BitVec 128} (hw : InW c n t) (hf : findR (tabW c n t) h = some a) (h3 : ((tabW c n t).getD a r0).kd = 3) :
    0 ≤ ((tabW c n t).getD a r0).pt ∧ ((tabW c n t).getD a r0).pt.toNat < (c.tp.getD n []).length ∧ (portAt c.tp n ((tabW c n t).getD a r0).pt.toNat).kd = 2 :=
  (does_parts (inW_rule hs hw hf).1).2.1 h3
theorem inW_next {c : Config} (hs : soundC c = 0) {n t a : Nat} {h : BitVec 128} (hw : InW c n t) (hf : findR (tabW c n t) h = some a) (he : stepE ((tabW c n t).getD a r0) = 0) :
    0 ≤ stepN c n ((tabW c n t).getD a r0) ∧ 0 ≤ stepT t ((tabW c n t).getD a r0) ∧ InW c (stepN c n ((tabW c n t).getD a r0)).toNat (stepT t ((tabW c n t).getD a r0)).toNat := by
  obtain ⟨r1, r2⟩ := inW_rule hs hw hf
  have r3 := inW_port hs hw hf
  obtain ⟨p1, p2, p3⟩ := sound_parts hs
  obtain ⟨d1, d2, d3⟩ := does_parts r1
  generalize (tabW c n t).getD a r0 = x at *
  have hn1 := hw.n1
  have hn2 := hw.n2
  have ht1 := hw.t1
  rcases step_ends he with h3 | h4
  · have s1 : stepN c n x = (portAt c.tp n x.pt.toNat).pe := if_pos h3
    have s2 : stepT t x = 0 := if_pos h3
    obtain ⟨q1, q2, q3⟩ := r3 h3
    obtain ⟨q4, q5⟩ := portT_parts (sound_ports p1 hn2 q2) q3
    rw [s1, s2]
    generalize (portAt c.tp n x.pt.toNat).pe = m at *
    refine ⟨q4, Int.le_refl _, by omega, by omega, ?_⟩
    exact (soundTab_parts (p3 m.toNat (by omega))).1
  · have n3 : x.kd ≠ 3 := by omega
    have s1 : stepN c n x = n := if_neg n3
    have s2 : stepT t x = x.tb := by unfold stepT; rw [if_neg n3, if_pos h4]
    have := d3 h4
    rw [s1, s2]
    refine ⟨by omega, by omega, by omega, by omega, ?_⟩
    simp only [Int.toNat_natCast]
    omega
end Go.Proofs.Ytbamjcnhmmgnlaa
set_option linter.unusedSimpArgs false
set_option linter.unusedVariables false
namespace Go.Proofs.Ytbamjcnhmmgnlaa
open Go.Proofs.Ytbamjcnhmmgnlaa.AL
theorem hasT_bits (k : Cube) (x : BitVec 128) : hasT k x = true ↔ ∀ i, i < 128 → k.c.getLsbD i = true → k.v.getLsbD i = x.getLsbD i := hasT_iff k x
theorem setH_bit (h : BitVec 128) (s : Cube) (j : Nat) (hj : j < 128) : (setH h s).getLsbD j = if s.c.getLsbD j then s.v.getLsbD j else h.getLsbD j := by
  unfold setH
  simp only [BitVec.getLsbD_or, BitVec.getLsbD_and, BitVec.getLsbD_not, hj, decide_true, Bool.true_and]
  cases s.c.getLsbD j <;> simp
theorem mkC_sound (x y : BitVec 128) : (mkC x y).sound = true := by
  refine (sound_iff _).2 fun i hi hv => ?_
  simp only [mkC, BitVec.getLsbD_and, Bool.and_eq_true] at hv ⊢
  exact hv.2
theorem before_sound (c s : Cube) : (beforeV c s).sound = true := by
  unfold beforeV
  split
  · exact mkC_sound _ _
  · decide
theorem before_has {c s : Cube} (hc : c.sound = true) (h : BitVec 128) : hasT c (setH h s) = (beforeO c s && hasT (beforeV c s) h) := by
  apply bool_iff
  rw [Bool.and_eq_true, hasT_bits]
  have e : beforeO c s = true ↔ ∀ i, i < 128 → c.c.getLsbD i = true → s.c.getLsbD i = true → c.v.getLsbD i = s.v.getLsbD i := by
    unfold beforeO
    rw [hc, Bool.true_and, apart_iff]
    constructor
    · intro h i hi h1 h2
      have := h i hi h1 h2
      simpa [mkC, h2] using this
    · intro h i hi h1 h2
      have h2 : s.c.getLsbD i = true := h2
      have := h i hi h1 h2
      simp [mkC, h2, this]
  constructor
  · intro hh
    have hO := e.2 fun i hi h1 h2 => by
      have := hh i hi h1
      rw [setH_bit _ s i hi, h2] at this
      simpa using this
    refine ⟨hO, ?_⟩
    unfold beforeV
    rw [hO, if_pos rfl, hasT_bits]
    intro i hi h1
    simp only [mkC, BitVec.getLsbD_and, BitVec.getLsbD_not, hi, decide_true, Bool.true_and, Bool.and_eq_true, Bool.not_eq_true'] at h1 ⊢
    have := hh i hi h1.1
    rw [setH_bit _ s i hi, h1.2] at this
    simp [h1.1, h1.2]
    simpa using this
  · rintro ⟨hO, h2⟩ i hi h1
    have hO' := e.1 hO
    rw [setH_bit _ s i hi]
    cases hs : s.c.getLsbD i
    · unfold beforeV at h2
      rw [hO, if_pos rfl, hasT_bits] at h2
      have := h2 i hi (by simp only [mkC, BitVec.getLsbD_and, BitVec.getLsbD_not, h1, hs, decide_eq_true hi, Bool.not_false, Bool.and_self])
      simp only [mkC, BitVec.getLsbD_and, BitVec.getLsbD_not, h1, hs, decide_eq_true hi, Bool.not_false, Bool.and_self, Bool.and_true] at this
      simpa using this
    · simpa using hO' i hi h1 hs
end Go.Proofs.Ytbamjcnhmmgnlaa
set_option linter.unusedSimpArgs false
set_option linter.unusedVariables false
namespace Go.Proofs.Ytbamjcnhmmgnlaa
open Go Go.Proofs.Ytbamjcnhmmgnlaa.AL
theorem addC_mem {L : List Cube} {k x : Cube} : x ∈ addC L k ↔ x ∈ L ∨ x = k := by
  unfold addC
  split
  · rename_i h
    have h : k ∈ L := by simpa using h
    exact ⟨.inl, fun e => e.elim id fun e => e ▸ h⟩
  · simp
theorem addC_nodup {L : List Cube} {k : Cube} (h : L.Nodup) : (addC L k).Nodup := by
  unfold addC
  split
  · exact h
  · rename_i hk
    have hk : k ∉ L := by simpa using hk
    rw [List.nodup_append]
    exact ⟨h, by simp, fun a ha b hb e => hk (by simp at hb; rw [← hb, ← e]; exact ha)⟩
theorem foldl_nodup {α : Type} (f : List Cube → α → List Cube) (hf : ∀ L a, L.Nodup → (f L a).Nodup) : ∀ (l : List α) (L : List Cube), L.Nodup → (l.foldl f L).Nodup
  | [], L, h => h
  | a :: l, L, h => foldl_nodup f hf l _ (hf L a h)
theorem foldl_sub {α : Type} (f : List Cube → α → List Cube) (hf : ∀ L a x, x ∈ L → x ∈ f L a) : ∀ (l : List α) (L : List Cube) (x : Cube), x ∈ L → x ∈ l.foldl f L
  | [], L, x, h => h
  | a :: l, L, x, h => foldl_sub f hf l _ x (hf L a x h)
theorem foldl_hit {α : Type} (f : List Cube → α → List Cube) (hf : ∀ L a x, x ∈ L → x ∈ f L a) (y : α → Option Cube) (hy : ∀ L a k, y a = some k → k ∈ f L a) : ∀ (l : List α) (L : List Cube) (a : α) (k : Cube), a ∈ l → y a = some k → k ∈ l.foldl f L
  | b :: l, L, a, k, ha, hk => by
    rw [List.foldl_cons]
    rcases List.mem_cons.1 ha with rfl | ha
    · exact foldl_sub f hf l _ k (hy L _ k hk)
    · exact foldl_hit f hf y hy l _ a k ha hk
theorem foldl_all {α : Type} (f : List Cube → α → List Cube) (p : Cube → Prop) (hf : ∀ L a, (∀ x ∈ L, p x) → ∀ x ∈ f L a, p x) : ∀ (l : List α) (L : List Cube), (∀ x ∈ L, p x) → ∀ x ∈ l.foldl f L, p x
  | [], L, h => h
  | a :: l, L, h => foldl_all f p hf l _ (hf L a h)
theorem foldl_alls {α : Type} (f : List Cube → α → List Cube) (p : Cube → Prop) : ∀ (l : List α), (∀ a ∈ l, ∀ L, (∀ x ∈ L, p x) → ∀ x ∈ f L a, p x) → ∀ (L : List Cube), (∀ x ∈ L, p x) → ∀ x ∈ l.foldl f L, p x
  | [], _, L, h => h
  | a :: l, hf, L, h => foldl_alls f p l (fun b hb => hf b (by simp [hb])) _ (hf a (by simp) L h)
theorem addC_sub (L : List Cube) (k x : Cube) (h : x ∈ L) : x ∈ addC L k := addC_mem.2 (.inl h)
theorem befF_sub (y : Cube) (L : List Cube) (s x : Cube) (h : x ∈ L) : x ∈ befF y L s := by
  unfold befF; split
  · exact addC_sub _ _ _ h
  · exact h
theorem befF_nodup (y : Cube) (L : List Cube) (s : Cube) (h : L.Nodup) : (befF y L s).Nodup := by
  unfold befF; split
  · exact addC_nodup h
  · exact h
theorem getD_pre {L M : List Cube} (h : ∃ t, M = L ++ t) {j : Nat} (hj : j < L.length) : M.getD j ⟨0, 0⟩ = L.getD j ⟨0, 0⟩ := by
  obtain ⟨t, rfl⟩ := h
  rw [List.getD_eq_getElem?_getD, List.getD_eq_getElem?_getD, List.getElem?_append_left hj]
theorem addC_pre (L : List Cube) (k : Cube) : ∃ t, addC L k = L ++ t := by
  unfold addC; split
  · exact ⟨[], by simp⟩
  · exact ⟨[k], rfl⟩
theorem befF_pre (y : Cube) (L : List Cube) (s : Cube) : ∃ t, befF y L s = L ++ t := by
  unfold befF; split
  · exact addC_pre _ _
  · exact ⟨[], by simp⟩
theorem foldl_pre {α : Type} (f : List Cube → α → List Cube) (hf : ∀ L a, ∃ t, f L a = L ++ t) : ∀ (l : List α) (L : List Cube), ∃ t, l.foldl f L = L ++ t
  | [], L => ⟨[], by simp⟩
  | a :: l, L => by
    obtain ⟨t, ht⟩ := hf L a
    obtain ⟨u, hu⟩ := foldl_pre f hf l (f L a)
    exact ⟨t ++ u, by rw [List.foldl_cons, hu, ht, List.append_assoc]⟩
def ClosedAt (S R : List Cube) (x : Cube) : Prop := ∀ s ∈ S, beforeO x s = true → beforeV x s ∈ R
theorem closeF_spec (S : List Cube) : ∀ (f n : Nat) (L : List Cube), 501 ≤ f + n → (closeF S f n L).length ≤ 500 → (∀ j, j < n → j < L.length → ClosedAt S L (L.getD j ⟨0, 0⟩)) →
    (∀ x ∈ L, x ∈ closeF S f n L) ∧ ∀ x ∈ closeF S f n L, ClosedAt S (closeF S f n L) x
  | 0, n, L, hf, hl, hc => by
    unfold closeF at hl ⊢
    refine ⟨fun x h => h, fun x hx => ?_⟩
    obtain ⟨j, hj, rfl⟩ := List.getElem_of_mem hx
    have := hc j (by omega) hj
    rwa [List.getD_eq_getElem?_getD, List.getElem?_eq_getElem hj] at this
  | f + 1, n, L, hf, hl, hc => by
    unfold closeF at hl ⊢
    split
    · rename_i h
      rw [if_pos h] at hl
      have pre := foldl_pre (befF (L.getD n ⟨0, 0⟩)) (befF_pre _) S L
      have sub := foldl_sub (befF (L.getD n ⟨0, 0⟩)) (fun L a x => befF_sub _ L a x) S L
      have hit := foldl_hit (befF (L.getD n ⟨0, 0⟩)) (fun L a x => befF_sub _ L a x) (fun s => if beforeO (L.getD n ⟨0, 0⟩) s then some (beforeV (L.getD n ⟨0, 0⟩) s) else none) (fun M a k hk => by
        split at hk
        · rename_i e
          cases hk
          unfold befF; rw [if_pos e]
          exact addC_mem.2 (.inr rfl)
        · cases hk) S L
      obtain ⟨h1, h2⟩ := closeF_spec S f (n + 1) _ (by omega) hl fun j hj hjl => by
        by_cases hjn : j = n
        · subst hjn
          rw [getD_pre pre h.1]
          intro s hs hb
          exact hit s _ hs (by rw [if_pos hb])
        · have hjL : j < L.length := by omega
          rw [getD_pre pre hjL]
          intro s hs hb
          exact sub _ (hc j (by omega) hjL s hs hb)
      exact ⟨fun x hx => h1 x (sub x hx), h2⟩
    · rename_i h
      rw [if_neg h] at hl
      refine ⟨fun x h => h, fun x hx => ?_⟩
      obtain ⟨j, hj, rfl⟩ := List.getElem_of_mem hx
      have := hc j (by omega) hj
      rwa [List.getD_eq_getElem?_getD, List.getElem?_eq_getElem hj] at this
theorem closeF_nodup (S : List Cube) : ∀ (f n : Nat) (L : List Cube), L.Nodup → (closeF S f n L).Nodup
  | 0, n, L, h => h
  | f + 1, n, L, h => by
    unfold closeF
    split
    · exact closeF_nodup S f (n + 1) _ (foldl_nodup _ (befF_nodup _) S L h)
    · exact h
theorem closeF_all (S : List Cube) (p : Cube → Prop) (hp : ∀ x s, p x → p (beforeV x s)) (h0 : p ⟨0, 0⟩) : ∀ (f n : Nat) (L : List Cube), (∀ x ∈ L, p x) → ∀ x ∈ closeF S f n L, p x
  | 0, n, L, h => h
  | f + 1, n, L, h => by
    unfold closeF
    split
    · rename_i hn
      refine closeF_all S p hp h0 f (n + 1) _ (foldl_all _ p (fun M a hM x hx => ?_) S L h)
      unfold befF at hx
      split at hx
      · rcases addC_mem.1 hx with hx | rfl
        · exact hM x hx
        · exact hp _ _ (h _ (getD_in hn.1 _))
      · exact hM x hx
    · exact h
theorem ins_perm {α : Type} (key : α → Int) (e : α) : ∀ l : List α, (ins key e l).Perm (e :: l)
  | [] => .refl _
  | y :: t => by
    unfold ins
    split
    · exact .refl _
    · exact ((ins_perm key e t).cons y).trans (.swap e y t)
theorem isort_perm {α : Type} (key : α → Int) : ∀ l : List α, (isort key l).Perm l
  | [] => .refl _
  | e :: t => (ins_perm key e _).trans ((isort_perm key t).cons e)
theorem rules_sound {c : Config} (h : soundC c = 0) {r : Rule} (hr : r ∈ rulesA c.tb) : r.mt.sound = true ∧ r.st.sound = true := by
  obtain ⟨_, hl, hp⟩ := sound_parts h
  unfold rulesA at hr
  obtain ⟨t', ht', hr⟩ := List.mem_flatten.1 hr
  obtain ⟨t, ht, rfl⟩ := List.mem_map.1 ht'
  obtain ⟨l, hl', hr⟩ := List.mem_flatten.1 hr
  obtain ⟨n, hn, rfl⟩ := List.getElem_of_mem ht
  obtain ⟨i, hi', rfl⟩ := List.getElem_of_mem hl'
  obtain ⟨k, hk, rfl⟩ := List.getElem_of_mem hr
  have h1 := hp n hn
  have e1 : c.tb.getD n [] = c.tb[n] := by rw [List.getD_eq_getElem?_getD, List.getElem?_eq_getElem hn]; rfl
  rw [e1] at h1
  have e2 : c.tb[n].getD i [] = c.tb[n][i] := by rw [List.getD_eq_getElem?_getD, List.getElem?_eq_getElem hi']; rfl
  have e3 : c.tb[n][i].getD k r0 = c.tb[n][i][k] := by rw [List.getD_eq_getElem?_getD, List.getElem?_eq_getElem hk]; rfl
  have h2 := (soundTab_parts h1).2.2 i k hi' (by rw [e2]; exact hk)
  rw [e2, e3] at h2
  unfold soundR at h2
  simp only [Bool.and_eq_true] at h2
  first | exact ⟨h2.1.1.2, h2.1.2⟩ | exact ⟨h2.1.1.1.2, h2.1.1.2⟩
theorem asks_sound {c : Config} {v : Int} (h : predE c v = 0) : ∀ x ∈ asksL c v, x.sound = true := by
  have h0 := (predE_zero h).1
  unfold asksL
  refine closeF_all _ _ (fun x s _ => before_sound x s) (by decide) _ _ _ ?_
  rw [fold3_flat]
  refine foldl_alls matchF (fun s => s.sound = true) _ (fun r hr L hL x hx => ?_) _ (by simp)
  unfold matchF at hx
  rcases addC_mem.1 hx with hx | rfl
  · exact hL x hx
  · exact (rules_sound h0 hr).1
structure OfOK (c : Config) (v : Int) : Prop where
  pe : predE c v = 0
  len : (ofV c v).length ≤ 500
  nodup : (ofV c v).Nodup
  sound : ∀ x ∈ ofV c v, x.sound = true
  closed : ∀ x ∈ ofV c v, ClosedAt (setsL c v) (ofV c v) x
  has : ∀ r ∈ rulesA c.tb, r.mt ∈ ofV c v
theorem of_ok {c : Config} {v : Int} (h : ofE c v = 0) : OfOK c v := by
  have hp : predE c v = 0 := by
    unfold ofE at h
    split at h
    · contradiction
    · rename_i hh; simpa using hh
  have hl : (asksL c v).length ≤ 500 := by
    unfold ofE at h
    rw [if_neg (by simpa using hp)] at h
    split at h
    · exact absurd h (by decide)
    · omega
  have e : ofV c v = isort onesK (asksL c v) := by unfold ofV; rw [if_pos h]
  have pm := isort_perm onesK (asksL c v)
  have hl' := hl
  unfold asksL at hl'
  obtain ⟨k1, k2⟩ := closeF_spec (setsL c v) 501 0 (fold3 matchF c.tb []) (by omega) hl' (fun j hj => by omega)
  refine ⟨hp, by rw [e, isort_length]; exact hl, ?_, fun x hx => ?_, fun x hx s hs hb => ?_, fun r hr => ?_⟩
  · rw [e]
    refine pm.nodup_iff.2 (closeF_nodup _ _ _ _ ?_)
    rw [fold3_flat]
    exact foldl_nodup _ (fun L a hL => addC_nodup hL) _ _ (by simp)
  · rw [e] at hx
    exact asks_sound hp x (pm.mem_iff.1 hx)
  · rw [e] at hx ⊢
    exact pm.mem_iff.2 (k2 x (pm.mem_iff.1 hx) s hs hb)
  · rw [e]
    refine pm.mem_iff.2 (k1 _ ?_)
    rw [fold3_flat]
    exact foldl_hit matchF (fun L a x hx => addC_sub _ _ _ hx) (fun r => some r.mt) (fun L a k hk => by cases hk; exact addC_mem.2 (.inr rfl)) _ _ r _ hr rfl
end Go.Proofs.Ytbamjcnhmmgnlaa
set_option linter.unusedSimpArgs false
set_option linter.unusedVariables false
namespace Go.Proofs.Ytbamjcnhmmgnlaa.AL
open Go
theorem Weak.growCell (A : ASt) (l0 l j sz : Nat) (e e' : TypeId) (cs : List AV) (f : Nat → List Dat) (hl0 : look A.locs l0 = some (.cells e cs)) (hj : cs[j]? = some (.p (.d (.v (.slice none 0 0))))) (hne : l0 ≠ l)
    (hu : unusedB A l = true) (hn : look A.locs l = none) : Weak A ⟨A.fr, (l, .grow e' sz 0 0) :: (l0, .cells e (cs.set j (.gr l 0 sz 0 f))) :: A.locs⟩ := by
  intro w0 g0 nt h a w r
  let h' : Gh := { h with κ := fun k => if k = l then .slice none 0 0 else h.κ k, μ := fun k => if k = l then 0 else h.μ k }
  have un := unusedB_spec hu
  have tr : Trans w0.O w h w h' (fun _ => False) (some l) true := by
    refine ⟨BelowS.refl _ _, fun b _ _ => ⟨rfl, rfl⟩, ⟨fun b => Nat.le_refl _, fun b o _ => rfl⟩, r.gz, fun b _ => rfl, fun _ _ => rfl, fun k hk => ?_, fun k _ hf => by cases hf⟩
    have : k ≠ l := fun e => hk (by rw [e])
    simp [h', this]
  have nl : h'.κ l = .slice none 0 0 := by simp [h']
  have nm : h'.μ l = 0 := by simp [h']
  have old : ∀ k L, k ≠ l → look A.locs k = some L → LocOK w0.O w h' k L ∧ inB h' k L = inB h k L := fun k L hk hL =>
    LocOK.trans tr (fun e => hk (by cases e; rfl)) (fun _ l' hl' hm => by cases hl'; exact un.2.1 k L hL hm) (fun b _ => by simp) (r.locs k L hL)
  have cell0 : LocOK w0.O w h' l0 (.cells e (cs.set j (.gr l 0 sz 0 f))) := by
    obtain ⟨arr, c1, c2, c3, c4, c5⟩ := (old l0 _ hne hl0).1
    refine ⟨arr, c1, c2, by simpa using c3, c4, fun i v x hv hx => ?_⟩
    by_cases hi : i = j
    · subst hi
      have hlt := (List.getElem?_eq_some_iff.1 hj).1
      rw [List.getElem?_set_self hlt] at hx
      cases hx
      obtain ⟨k1, k2⟩ := c5 i v _ hv hj
      have hv0 := relA_nil k1
      refine ⟨?_, k2⟩
      rw [hv0]
      exact ⟨.sl0 _ _ _ _, by omega, fun _ => nl.symm⟩
    · rw [List.getElem?_set_ne (fun e => hi e.symm)] at hx
      exact c5 i v x hv hx
  refine ⟨h', r.size, r.defers, fun u y hy => ?_, fun k L hL => ?_, fun k k' L L' b hne2 hL hL' hbk => ?_, r.ext, fun k hk => ?_⟩
  · exact RelA.trans tr (fun _ l' hl' hm => by cases hl'; exact un.1 u y hy hm) (r.fr u y hy)
  · simp only [look] at hL
    split at hL
    · rename_i e2; subst e2; cases hL
      exact ⟨nm, ⟨[], by rw [nl]; exact World.ownsRow_nil _ _ _ _⟩, fun b c hb => by rw [nl] at hb; simp at hb, fun b hb => by rw [nl] at hb; simp [Value.ownBlock] at hb⟩
    · rename_i hk
      split at hL
      · rename_i e2; subst e2; cases hL; exact cell0
      · exact (old k L (fun e => hk e.symm) hL).1
  · have two : ∀ {k : Nat} {L : LV}, look ((l, LV.grow e' sz 0 0) :: (l0, .cells e (cs.set j (.gr l 0 sz 0 f))) :: A.locs) k = some L → inB h' k L b → k ≠ l ∧ ∃ L0, look A.locs k = some L0 ∧ inB h k L0 b := by
      intro k L hL hb
      simp only [look] at hL
      split at hL
      · rename_i e2; subst e2; cases hL
        simp [inB, nl, Value.ownBlock] at hb
      · rename_i hk
        refine ⟨fun e => hk e.symm, ?_⟩
        split at hL
        · rename_i e2; subst e2; cases hL
          exact ⟨_, hl0, hb⟩
        · exact ⟨L, hL, by rw [← (old k L (fun e => hk e.symm) hL).2]; exact hb⟩
    intro hin
    obtain ⟨a1, L1, a2, a3⟩ := two hL hbk
    obtain ⟨b1, L2, b2, b3⟩ := two hL' hin
    exact r.sep k k' L1 L2 b hne2 a2 b2 a3 b3
  · have : k ≠ l := by have := un.2.2; omega
    simp only [h', if_neg this]
    exact r.pin k hk
theorem awp_growCell {P : Program} {nt : Nat} {c : Code} {Q : Exit → ASt → Prop} {A : ASt} (l0 l j sz : Nat) (e' : TypeId) (f : Nat → List Dat) {e : TypeId} {cs : List AV} (hl0 : look A.locs l0 = some (.cells e cs)) (hj : cs[j]? = some (.p (.d (.v (.slice none 0 0))))) (hne : l0 ≠ l)
    (hu : unusedB A l = true) (hn : look A.locs l = none) (h : AWP P nt c Q ⟨A.fr, (l, .grow e' sz 0 0) :: (l0, .cells e (cs.set j (.gr l 0 sz 0 f))) :: A.locs⟩) : AWP P nt c Q A := awp_weak (Weak.growCell A l0 l j sz e e' cs f hl0 hj hne hu hn) h
end Go.Proofs.Ytbamjcnhmmgnlaa.AL
set_option linter.unusedSimpArgs false
set_option linter.unusedVariables false
namespace Go.Proofs.Ytbamjcnhmmgnlaa
open Go.Proofs.Ytbamjcnhmmgnlaa.AL
def runD (r : RunR) : List Dat := [.v (.int .i64 r.en), .v (.int .i64 r.an), .v (.int .i64 r.ap), .sl 5 r.hops.length (rowH r.hops)]
def runZ : LV := .cells 84 [.p (.d (.v (.int .i64 0))), .p (.d (.v (.int .i64 0))), .p (.d (.v (.int .i64 0))), .p (.d (.v (.slice none 0 0)))]
end Go.Proofs.Ytbamjcnhmmgnlaa
set_option linter.unusedSimpArgs false
set_option linter.unusedVariables false
namespace Go.Proofs.Ytbamjcnhmmgnlaa
open Go.Proofs.Ytbamjcnhmmgnlaa.AL
theorem rru_out {en an ap : Int} {l : List Hop} {k : Code} {Q : Exit → ASt → Prop} {A : ASt} {g n : Nat} {f : Nat → List Dat} (h1 : AL.look A.fr 11 = some (.loc 11 0)) (h2 : AL.look A.fr 10 = some (.loc 10 0))
    (h3 : AL.look A.locs 11 = some (.cells 84 [.p (.d (.v (.int .i64 en))), .p (.d (.v (.int .i64 an))), .p (.d (.v (.int .i64 ap))), .gr 99 g 5 n f])) (h4 : AL.look A.locs 10 = some runZ) (hn : n = l.length) (hf : ∀ i, i < n → f i = rowH l i)
    (hk : AWP Try.prog 116 k Q ⟨[(11, .loc 11 0), (10, .loc 10 0)], [(11, .cells 84 [.p (.d (.v (.int .i64 en))), .p (.d (.v (.int .i64 an))), .p (.d (.v (.int .i64 ap))), .p (.d (.sl 5 l.length (rowH l)))]), (10, runZ)]⟩) : AWP Try.prog 116 k Q A := by
  refine awp_weak (A' := ⟨[(11, .loc 11 0), (10, .loc 10 0)], [(11, .cells 84 [.p (.d (.v (.int .i64 en))), .p (.d (.v (.int .i64 an))), .p (.d (.v (.int .i64 ap))), .p (.d (.sl 5 l.length (rowH l)))]), (10, runZ)]⟩) (Weak.list ⟨⟨_, h1, Le.refl _⟩, ⟨_, h2, Le.refl _⟩, trivial⟩ ⟨⟨_, h3, ?_⟩, ⟨_, h4, of_eq_true (j9 _)⟩, trivial⟩) hk
  subst hn
  refine lle_cellsD ?_
  iterate 3 (refine LesD.cons (Le.refl _) ?_)
  exact .cons (le_gr rfl hf) .nil
structure WSr (c : Config) (R : RunR) (most : Nat) where
  i : Nat
  n : Nat
  t : Nat
  h : BitVec 128
  hops : List Hop
  hi : i ≤ most
  hl : hops.length = i
  hw : InW c n t
  hg : goW c (most - i) n t h hops = R
def rruI (c : Config) (R : RunR) (most : Nat) (s : WSr c R most) : ASt :=
  ⟨[(12, .p (.d (.v (.int .i64 (s.n : Int))))), (13, .p (.d (.v (.int .i64 (s.t : Int))))), (7, .loc 7 0), (11, .loc 11 0), (10, .loc 10 0), (5, .p (.d (.bx (configD c)))), (4, .p (.d (.v (.int .i64 (most : Int)))))],
   [(7, .cells 25 [.p (.d (.v (.int .u64 (hi s.h)))), .p (.d (.v (.int .u64 (lo s.h))))]), (11, .cells 84 [.p (.d (.v (.int .i64 0))), .p (.d (.v (.int .i64 0))), .p (.d (.v (.int .i64 0))), .gr 99 s.hops.length 5 s.hops.length (rowH s.hops)]), (99, .grow 87 5 s.hops.length s.hops.length), (10, runZ)]⟩
set_option maxRecDepth 100000 in
set_option maxHeartbeats 8000000 in
theorem RefRun_c (c : Config) (s : Spot) (h : BitVec 128) (v most : Nat) (R : RunR) (hc : c.small) (hv : v ≤ 255) (hm : most ≤ 100000) (hs : soundC c = 0) (he : s ∈ edgesT c.tp) (n : Nat) (hn : s.sw = n) (hw : InW c n 0)
    (hR : goW c most n 0 (stampR h ((edgeT c.tp s).toNat + 1) v) [] = R) :
    ACalls Try.prog 34 [.agg (configD c), .agg (spotD s), .agg (hd h), .d (.v (.int .i64 (v : Int))), .d (.v (.int .i64 (most : Int)))] (· = [.agg (runD R)]) := by
  obtain ⟨p1, p2, p3⟩ := sound_parts hs
  obtain ⟨t1, t2⟩ := sound_tenant p1 he
  have s1 := EdgeR_c c.tp s hc.tp
  rw [show edgeT c.tp s = ((edgeT c.tp s).toNat : Int) by omega] at s1
  have tT : (edgeT c.tp s).toNat < 4 := by omega
  generalize (edgeT c.tp s).toNat = T at *
  have s2 := StampR_c h T v (by omega) (by omega)
  generalize stampR h (T + 1) v = h' at *
  obtain ⟨sw, po⟩ := s
  cases hn
  unfold configD spotD topoD at *
  have sb := hc.tb
  refine q11 Try.func34 rfl (by decide +kernel) (by rw [Try.ntmps34]; simp) ?_; rw [Try.ntmps34]; simp only [frOf]
  (repeat (first | refine j0 ?_ | refine q7 rfl ?_ | refine z7 rfl ?_ | refine x6 ?_ | (refine z5 fun K hK => ?_) | (refine j5 (by kernel_rfl) (by kernel_rfl) fun K hK => ?_) | ((first | refine q6 ?_ | refine z6 ?_ | ((first | refine z3 (hK _ ?_) | refine j4 (hK _ _ (z4 (by kernel_rfl)) ?_)); clear hK K)); (first | show AWP _ _ _ _ _ | ((try simp only [j6]); first | show loopQ _ _ _ _ _ _ | show cutQ _ _ _ _ | show AWP _ _ _ _ _))) | ((first | refine z9 rfl rfl rfl ?_ | refine x9 rfl rfl rfl ?_); simp (maxSteps := 2000000) (disch := omega) only [go_sem, seval, hd, cb, ruleD, portD]; (first | refine ⟨_, s1, ?_⟩ | refine ⟨_, s2, ?_⟩)) | ((first | refine x7 [7, 10, 11, 16] rfl ?_ | refine j7 [7, 10, 11, 16] rfl ?_); simp (maxSteps := 2000000) (disch := omega) only [go_sem, seval, hd, cb, ruleD, portD]; (repeat (first | refine ⟨by omega, ?_⟩ | refine ⟨True.intro, ?_⟩)))))
  refine awp_growCell 11 99 3 5 87 (rowH []) rfl rfl (by omega) (by kernel_rfl) rfl ?_
  refine awp_loop (rruI c R most) (fun s => most - s.i) ⟨0, n, 0, h', [], by omega, rfl, hw, by rw [Nat.sub_zero]; exact hR⟩ ?_ (fun s => ?_)
  · unfold rruI runZ configD
    refine Weak.list ?_ ?_; (all_goals simp (disch := omega) only [AllF, AllL, q10, z10, j9, exists_eq_left', Option.some.injEq, go_sem, seval, hd, cb, ruleD, portD]); (all_goals (repeat' (with_reducible apply And.intro))); (all_goals try (first | exact q8 rfl | (refine x10 ?_; omega) | (refine q8 ?_; simp; done)))
    exact of_eq_true (j9 _)
  obtain ⟨i, n, t, h, hops, hi, hl, hw, hg⟩ := s
  have hkk : hops.length ≤ 100000 := by omega
  have lc : ∀ (x : Hop), hops.length + 1 = (hops ++ [x]).length := fun x => by simp
  have hn1 := hw.n1
  have hn2 := hw.n2
  have ht1 := hw.t1
  have u1 := rowTT_at c.tb n
  have hfi := find_best (tabW c n t) h
  have k1 := FindRef_c (tabW c n t) h (by have := smallR_at (hc.at n) t; unfold tabW; omega)
  have ipo := @inW_port c hs n t
  have irl := @inW_rule c hs n t
  have inx := @inW_next c hs n t
  have hsm := hc.at n
  rw [← hfi] at k1
  unfold rruI runZ configD
  by_cases hi2 : i < most
  · obtain ⟨f, hf⟩ : ∃ f, most - i = f + 1 := ⟨most - i - 1, by omega⟩
    rw [hf] at hg
    have hgo : goW c (f + 1) n t h hops = match findR (tabW c n t) h with
      | none => ⟨3, 0, 0, hops ++ [⟨n, t, -1, h⟩]⟩
      | some a => if stepE ((tabW c n t).getD a r0) = 0
        then goW c f (stepN c n ((tabW c n t).getD a r0)).toNat (stepT t ((tabW c n t).getD a r0)).toNat (setH h ((tabW c n t).getD a r0).st) (hops ++ [⟨n, t, a, h⟩])
        else ⟨stepE ((tabW c n t).getD a r0), (stepA n ((tabW c n t).getD a r0)).1, (stepA n ((tabW c n t).getD a r0)).2, hops ++ [⟨n, t, a, h⟩]⟩ := rfl
    rw [hg] at hgo
    unfold tabW at *
    generalize c.tb.getD n [] = ts at *
    have u2 := rowRR_at ts t
    have hb := smallR_at hsm t
    generalize ts.getD t [] = l at *
    cases hfi : findR l h with
    | none =>
      rw [hfi] at k1 hgo
      simp only [Option.getD_none, Option.isSome_none] at k1 hgo
      clear hg hR
      subst hgo
      unfold runD
      (repeat ((fail_if_success (show AWP _ _ (.region 9 _ _) _ _)); first | refine j0 ?_ | refine q7 rfl ?_ | refine z7 rfl ?_ | refine x6 ?_ | (refine z5 fun K hK => ?_) | (refine j5 (by kernel_rfl) (by kernel_rfl) fun K hK => ?_) | ((first | refine q6 ?_ | refine z6 ?_ | ((first | refine z3 (hK _ ?_) | refine j4 (hK _ _ (z4 (by kernel_rfl)) ?_)); clear hK K)); (first | show AWP _ _ _ _ _ | ((try simp only [j6]); first | show loopQ _ _ _ _ _ _ | show cutQ _ _ _ _ | show AWP _ _ _ _ _))) | ((first | refine z9 rfl rfl rfl ?_ | refine x9 rfl rfl rfl ?_); simp (maxSteps := 2000000) (disch := omega) only [go_sem, seval, hd, cb, ruleD, portD, u1, u2]; (first | refine ⟨_, k1, ?_⟩)) | ((first | refine x7 [7, 10, 11, 16] rfl ?_ | refine j7 [7, 10, 11, 16] rfl ?_); simp (maxSteps := 2000000) (disch := omega) only [go_sem, seval, hd, cb, ruleD, portD, u1, u2]; (repeat (first | refine ⟨by omega, ?_⟩ | refine ⟨True.intro, ?_⟩)))))
      refine rru_out (l := hops ++ [⟨n, t, -1, h⟩]) rfl rfl rfl rfl (lc _) (fun j hj => rowH_put hops ⟨n, t, -1, h⟩ j hj) ?_
      unfold runZ
      (repeat (first | refine j0 ?_ | refine q7 rfl ?_ | refine z7 rfl ?_ | refine x6 ?_ | (refine z5 fun K hK => ?_) | (refine j5 (by kernel_rfl) (by kernel_rfl) fun K hK => ?_) | ((first | refine q6 ?_ | refine z6 ?_ | ((first | refine z3 (hK _ ?_) | refine j4 (hK _ _ (z4 (by kernel_rfl)) ?_)); clear hK K)); (first | show AWP _ _ _ _ _ | ((try simp only [j6]); first | show loopQ _ _ _ _ _ _ | show cutQ _ _ _ _ | show AWP _ _ _ _ _))) | ((first | refine x7 [7, 10, 11, 16] rfl ?_ | refine j7 [7, 10, 11, 16] rfl ?_); simp (maxSteps := 2000000) (disch := omega) only [go_sem, seval, hd, cb, ruleD, portD, u1, u2]; (repeat (first | refine ⟨by omega, ?_⟩ | refine ⟨True.intro, ?_⟩)))))
      refine j8 ⟨_, ?_, rfl⟩; rw [Try.results34]; simp (disch := omega) only [ResVars, ResVar, ptrLoc, go_sem, seval, hd, cb, ruleD, portD, u1, u2]
    | some a =>
      rw [hfi] at k1 hgo
      simp only [Option.getD_some, Option.isSome_some] at k1 hgo
      have u3 := rowR_at l a
      have hal := findR_lt hfi
      have irl := irl hw hfi
      have ipo := ipo hw hfi
      have inx := inx hw hfi
      clear hg hR
      have q4 := rowH_put hops ⟨n, t, a, h⟩
      have q5 := lc ⟨n, t, a, h⟩
      generalize l.getD a r0 = x at *
      have k2 := SetT_c h x.st
      generalize setH h x.st = h2 at *
      obtain ⟨y, hy⟩ : ∃ y, y = hops ++ [⟨n, t, a, h⟩] := ⟨_, rfl⟩
      rw [← hy] at hgo q4 q5
      obtain ⟨kd4, -, -⟩ := does_parts irl.1
      rcases kd4 with h1 | h1 | h1 | h1
      · have q1 : (x.kd == 1) = true := ieq_tt h1
        rw [show stepE x = 1 by unfold stepE; simp [h1], show stepA n x = (0, 0) by unfold stepA; simp [h1], if_neg (by decide)] at hgo
        subst hgo
        unfold runD
        (repeat ((fail_if_success (show AWP _ _ (.region 17 _ _) _ _)); first | refine j0 ?_ | refine q7 rfl ?_ | refine z7 rfl ?_ | refine x6 ?_ | (refine z5 fun K hK => ?_) | (refine j5 (by kernel_rfl) (by kernel_rfl) fun K hK => ?_) | ((first | refine q6 ?_ | refine z6 ?_ | ((first | refine z3 (hK _ ?_) | refine j4 (hK _ _ (z4 (by kernel_rfl)) ?_)); clear hK K)); (first | show AWP _ _ _ _ _ | ((try simp only [j6]); first | show loopQ _ _ _ _ _ _ | show cutQ _ _ _ _ | show AWP _ _ _ _ _))) | ((first | refine z9 rfl rfl rfl ?_ | refine x9 rfl rfl rfl ?_); simp (maxSteps := 2000000) (disch := omega) only [go_sem, seval, hd, cb, ruleD, portD, u1, u2, u3, q1]; (first | refine ⟨_, k1, ?_⟩ | refine ⟨_, k2, ?_⟩)) | ((first | refine x7 [7, 10, 11, 16] rfl ?_ | refine j7 [7, 10, 11, 16] rfl ?_); simp (maxSteps := 2000000) (disch := omega) only [go_sem, seval, hd, cb, ruleD, portD, u1, u2, u3, q1]; (repeat (first | refine ⟨by omega, ?_⟩ | refine ⟨True.intro, ?_⟩)))))
        refine rru_out (l := y) rfl rfl rfl rfl q5 (fun j hj => q4 j hj) ?_
        unfold runZ
        (repeat (first | refine j0 ?_ | refine q7 rfl ?_ | refine z7 rfl ?_ | refine x6 ?_ | (refine z5 fun K hK => ?_) | (refine j5 (by kernel_rfl) (by kernel_rfl) fun K hK => ?_) | ((first | refine q6 ?_ | refine z6 ?_ | ((first | refine z3 (hK _ ?_) | refine j4 (hK _ _ (z4 (by kernel_rfl)) ?_)); clear hK K)); (first | show AWP _ _ _ _ _ | ((try simp only [j6]); first | show loopQ _ _ _ _ _ _ | show cutQ _ _ _ _ | show AWP _ _ _ _ _))) | ((first | refine x7 [7, 10, 11, 16] rfl ?_ | refine j7 [7, 10, 11, 16] rfl ?_); simp (maxSteps := 2000000) (disch := omega) only [go_sem, seval, hd, cb, ruleD, portD, u1, u2, u3, q1]; (repeat (first | refine ⟨by omega, ?_⟩ | refine ⟨True.intro, ?_⟩)))))
        refine j8 ⟨_, ?_, rfl⟩; rw [Try.results34]; simp (disch := omega) only [ResVars, ResVar, ptrLoc, go_sem, seval, hd, cb, ruleD, portD, u1, u2, u3, q1]
      · have q1 : (x.kd == 1) = false := ieq_ff (by omega)
        have q2 : (x.kd == 2) = true := ieq_tt h1
        rw [show stepE x = 2 by unfold stepE; simp [h1], show stepA n x = ((n : Int), x.pt) by unfold stepA; simp [h1], if_neg (by decide)] at hgo
        subst hgo
        unfold runD
        (repeat ((fail_if_success (show AWP _ _ (.region 21 _ _) _ _)); first | refine j0 ?_ | refine q7 rfl ?_ | refine z7 rfl ?_ | refine x6 ?_ | (refine z5 fun K hK => ?_) | (refine j5 (by kernel_rfl) (by kernel_rfl) fun K hK => ?_) | ((first | refine q6 ?_ | refine z6 ?_ | ((first | refine z3 (hK _ ?_) | refine j4 (hK _ _ (z4 (by kernel_rfl)) ?_)); clear hK K)); (first | show AWP _ _ _ _ _ | ((try simp only [j6]); first | show loopQ _ _ _ _ _ _ | show cutQ _ _ _ _ | show AWP _ _ _ _ _))) | ((first | refine z9 rfl rfl rfl ?_ | refine x9 rfl rfl rfl ?_); simp (maxSteps := 2000000) (disch := omega) only [go_sem, seval, hd, cb, ruleD, portD, u1, u2, u3, q1, q2]; (first | refine ⟨_, k1, ?_⟩ | refine ⟨_, k2, ?_⟩)) | ((first | refine x7 [7, 10, 11, 16] rfl ?_ | refine j7 [7, 10, 11, 16] rfl ?_); simp (maxSteps := 2000000) (disch := omega) only [go_sem, seval, hd, cb, ruleD, portD, u1, u2, u3, q1, q2]; (repeat (first | refine ⟨by omega, ?_⟩ | refine ⟨True.intro, ?_⟩)))))
        refine rru_out (l := y) rfl rfl rfl rfl q5 (fun j hj => q4 j hj) ?_
        unfold runZ
        (repeat (first | refine j0 ?_ | refine q7 rfl ?_ | refine z7 rfl ?_ | refine x6 ?_ | (refine z5 fun K hK => ?_) | (refine j5 (by kernel_rfl) (by kernel_rfl) fun K hK => ?_) | ((first | refine q6 ?_ | refine z6 ?_ | ((first | refine z3 (hK _ ?_) | refine j4 (hK _ _ (z4 (by kernel_rfl)) ?_)); clear hK K)); (first | show AWP _ _ _ _ _ | ((try simp only [j6]); first | show loopQ _ _ _ _ _ _ | show cutQ _ _ _ _ | show AWP _ _ _ _ _))) | ((first | refine x7 [7, 10, 11, 16] rfl ?_ | refine j7 [7, 10, 11, 16] rfl ?_); simp (maxSteps := 2000000) (disch := omega) only [go_sem, seval, hd, cb, ruleD, portD, u1, u2, u3, q1, q2]; (repeat (first | refine ⟨by omega, ?_⟩ | refine ⟨True.intro, ?_⟩)))))
        refine j8 ⟨_, ?_, rfl⟩; rw [Try.results34]; simp (disch := omega) only [ResVars, ResVar, ptrLoc, go_sem, seval, hd, cb, ruleD, portD, u1, u2, u3, q1, q2]
      · have q1 : (x.kd == 1) = false := ieq_ff (by omega)
        have q2 : (x.kd == 2) = false := ieq_ff (by omega)
        have q3 : (x.kd == 4) = false := ieq_ff (by omega)
        have e0 : stepE x = 0 := by unfold stepE; simp [h1]
        rw [e0, if_pos rfl] at hgo
        obtain ⟨i1, i2, i3⟩ := ipo h1
        obtain ⟨j1, j2, j3⟩ := inx e0
        have e1 : stepN c n x = (portAt c.tp n x.pt.toNat).pe := if_pos h1
        have e2 : stepT t x = 0 := if_pos h1
        obtain ⟨m, hpt⟩ := Int.eq_ofNat_of_zero_le i1
        rw [hpt, Int.toNat_natCast] at i2
        rw [e1, hpt, Int.toNat_natCast] at j1
        rw [e1, e2, hpt, Int.toNat_natCast] at j3 hgo
        have w1 := rowPP_at c.tp n
        unfold portAt at j1 j3 hgo
        have hbp := small_at hc.tp n
        generalize c.tp.getD n [] = ps at *
        have w2 : rowP ps m = portD (ps.getD m p0) := rfl
        generalize ps.getD m p0 = p at *
        (repeat (first | refine j0 ?_ | refine q7 rfl ?_ | refine z7 rfl ?_ | refine x6 ?_ | (refine z5 fun K hK => ?_) | (refine j5 (by kernel_rfl) (by kernel_rfl) fun K hK => ?_) | ((first | refine q6 ?_ | refine z6 ?_ | ((first | refine z3 (hK _ ?_) | refine j4 (hK _ _ (z4 (by kernel_rfl)) ?_)); clear hK K)); (first | show AWP _ _ _ _ _ | ((try simp only [j6]); first | show loopQ _ _ _ _ _ _ | show cutQ _ _ _ _ | show AWP _ _ _ _ _))) | ((first | refine z9 rfl rfl rfl ?_ | refine x9 rfl rfl rfl ?_); simp (maxSteps := 2000000) (disch := omega) only [go_sem, seval, hd, cb, ruleD, portD, u1, u2, u3, q1, q2, q3, w1, w2, hpt]; (first | refine ⟨_, k1, ?_⟩ | refine ⟨_, k2, ?_⟩)) | ((first | refine x7 [7, 10, 11, 16] rfl ?_ | refine j7 [7, 10, 11, 16] rfl ?_); simp (maxSteps := 2000000) (disch := omega) only [go_sem, seval, hd, cb, ruleD, portD, u1, u2, u3, q1, q2, q3, w1, w2, hpt]; (repeat (first | refine ⟨by omega, ?_⟩ | refine ⟨True.intro, ?_⟩)))))
        refine ⟨⟨i + 1, p.pe.toNat, 0, h2, y, by omega, by omega, j3, by rw [show most - (i + 1) = f by omega]; exact hgo.symm⟩, by simp only []; omega, ?_⟩
        refine Weak.list ?_ ?_; (all_goals simp (disch := omega) only [AllF, AllL, q10, z10, j9, exists_eq_left', Option.some.injEq, go_sem, seval, hd, cb, ruleD, portD, u1, u2, u3, q1, q2, q3, w1, w2, hpt]); (all_goals (repeat' (with_reducible apply And.intro))); (all_goals try (first | exact q8 rfl | (refine x10 ?_; omega) | (refine q8 ?_; simp; done)))
        · refine lle_cellsD ?_
          iterate 3 (refine LesD.cons (Le.refl _) ?_)
          exact .cons (le_grgr q5 q5 q4) .nil
        · exact lle_grow q5 q5
      · have q1 : (x.kd == 1) = false := ieq_ff (by omega)
        have q2 : (x.kd == 2) = false := ieq_ff (by omega)
        have q3 : (x.kd == 4) = true := ieq_tt h1
        have e0 : stepE x = 0 := by unfold stepE; simp [h1]
        rw [e0, if_pos rfl] at hgo
        obtain ⟨j1, j2, j3⟩ := inx e0
        have e1 : stepN c n x = n := if_neg (by omega)
        have e2 : stepT t x = x.tb := by unfold stepT; rw [if_neg (by omega), if_pos h1]
        rw [e1, e2, Int.toNat_natCast] at j3 hgo
        rw [e2] at j2
        (repeat (first | refine j0 ?_ | refine q7 rfl ?_ | refine z7 rfl ?_ | refine x6 ?_ | (refine z5 fun K hK => ?_) | (refine j5 (by kernel_rfl) (by kernel_rfl) fun K hK => ?_) | ((first | refine q6 ?_ | refine z6 ?_ | ((first | refine z3 (hK _ ?_) | refine j4 (hK _ _ (z4 (by kernel_rfl)) ?_)); clear hK K)); (first | show AWP _ _ _ _ _ | ((try simp only [j6]); first | show loopQ _ _ _ _ _ _ | show cutQ _ _ _ _ | show AWP _ _ _ _ _))) | ((first | refine z9 rfl rfl rfl ?_ | refine x9 rfl rfl rfl ?_); simp (maxSteps := 2000000) (disch := omega) only [go_sem, seval, hd, cb, ruleD, portD, u1, u2, u3, q1, q2, q3]; (first | refine ⟨_, k1, ?_⟩ | refine ⟨_, k2, ?_⟩)) | ((first | refine x7 [7, 10, 11, 16] rfl ?_ | refine j7 [7, 10, 11, 16] rfl ?_); simp (maxSteps := 2000000) (disch := omega) only [go_sem, seval, hd, cb, ruleD, portD, u1, u2, u3, q1, q2, q3]; (repeat (first | refine ⟨by omega, ?_⟩ | refine ⟨True.intro, ?_⟩)))))
        refine ⟨⟨i + 1, n, x.tb.toNat, h2, y, by omega, by omega, j3, by rw [show most - (i + 1) = f by omega]; exact hgo.symm⟩, by simp only []; omega, ?_⟩
        refine Weak.list ?_ ?_; (all_goals simp (disch := omega) only [AllF, AllL, q10, z10, j9, exists_eq_left', Option.some.injEq, go_sem, seval, hd, cb, ruleD, portD, u1, u2, u3, q1, q2, q3]); (all_goals (repeat' (with_reducible apply And.intro))); (all_goals try (first | exact q8 rfl | (refine x10 ?_; omega) | (refine q8 ?_; simp; done)))
        · refine lle_cellsD ?_
          iterate 3 (refine LesD.cons (Le.refl _) ?_)
          exact .cons (le_grgr q5 q5 q4) .nil
        · exact lle_grow q5 q5
  · have : i = most := by omega
    have hR2 : R = ⟨4, 0, 0, hops⟩ := by rw [← hg, this, Nat.sub_self]; rfl
    subst hR2
    unfold runD
    subst this
    (repeat ((fail_if_success (show AWP _ _ (.region 25 _ _) _ _)); first | refine j0 ?_ | refine q7 rfl ?_ | refine z7 rfl ?_ | refine x6 ?_ | (refine z5 fun K hK => ?_) | (refine j5 (by kernel_rfl) (by kernel_rfl) fun K hK => ?_) | ((first | refine q6 ?_ | refine z6 ?_ | ((first | refine z3 (hK _ ?_) | refine j4 (hK _ _ (z4 (by kernel_rfl)) ?_)); clear hK K)); (first | show AWP _ _ _ _ _ | ((try simp only [j6]); first | show loopQ _ _ _ _ _ _ | show cutQ _ _ _ _ | show AWP _ _ _ _ _))) | ((first | refine x7 [7, 10, 11, 16] rfl ?_ | refine j7 [7, 10, 11, 16] rfl ?_); simp (maxSteps := 2000000) (disch := omega) only [go_sem, seval, hd, cb, ruleD, portD]; (repeat (first | refine ⟨by omega, ?_⟩ | refine ⟨True.intro, ?_⟩)))))
    refine rru_out (l := hops) rfl rfl rfl rfl rfl (fun j hj => rfl) ?_
    unfold runZ
    (repeat (first | refine j0 ?_ | refine q7 rfl ?_ | refine z7 rfl ?_ | refine x6 ?_ | (refine z5 fun K hK => ?_) | (refine j5 (by kernel_rfl) (by kernel_rfl) fun K hK => ?_) | ((first | refine q6 ?_ | refine z6 ?_ | ((first | refine z3 (hK _ ?_) | refine j4 (hK _ _ (z4 (by kernel_rfl)) ?_)); clear hK K)); (first | show AWP _ _ _ _ _ | ((try simp only [j6]); first | show loopQ _ _ _ _ _ _ | show cutQ _ _ _ _ | show AWP _ _ _ _ _))) | ((first | refine x7 [7, 10, 11, 16] rfl ?_ | refine j7 [7, 10, 11, 16] rfl ?_); simp (maxSteps := 2000000) (disch := omega) only [go_sem, seval, hd, cb, ruleD, portD]; (repeat (first | refine ⟨by omega, ?_⟩ | refine ⟨True.intro, ?_⟩)))))
    refine j8 ⟨_, ?_, rfl⟩; rw [Try.results34]; simp (disch := omega) only [ResVars, ResVar, ptrLoc, go_sem, seval, hd, cb, ruleD, portD]
end Go.Proofs.Ytbamjcnhmmgnlaa
set_option linter.unusedSimpArgs false
set_option linter.unusedVariables false
namespace Go.Proofs.Ytbamjcnhmmgnlaa
open Go.Proofs.Ytbamjcnhmmgnlaa.AL
end Go.Proofs.Ytbamjcnhmmgnlaa
set_option linter.unusedSimpArgs false
set_option linter.unusedVariables false
namespace Go.Proofs.Ytbamjcnhmmgnlaa
open Go.Proofs.Ytbamjcnhmmgnlaa.AL
end Go.Proofs.Ytbamjcnhmmgnlaa
set_option linter.unusedSimpArgs false
set_option linter.unusedVariables false
namespace Go.Proofs.Ytbamjcnhmmgnlaa
open Go.Proofs.Ytbamjcnhmmgnlaa.AL
theorem edge_in {c : Config} {s : Spot} (hs : soundC c = 0) (hm : s ∈ edgesT c.tp) : ∃ n : Nat, s.sw = n ∧ InW c n 0 := by
  obtain ⟨i, j, rfl, g1, -, -⟩ := edgesT_at hm
  obtain ⟨p1, p2, p3⟩ := sound_parts hs
  exact ⟨i, rfl, by omega, g1, (soundTab_parts (p3 i (by omega))).1⟩
theorem goW_len (c : Config) : ∀ (f n t : Nat) (h : BitVec 128) (hops : List Hop), (goW c f n t h hops).hops.length ≤ hops.length + f
  | 0, _, _, _, hops => Nat.le_refl _
  | f + 1, n, t, h, hops => by
    unfold goW
    split
    · simp
    · split
      · refine Nat.le_trans (goW_len c f _ _ _ _) ?_
        simp; omega
      · simp
end Go.Proofs.Ytbamjcnhmmgnlaa
set_option linter.unusedSimpArgs false
set_option linter.unusedVariables false
namespace Go.Proofs.Ytbamjcnhmmgnlaa
open Go Go.Proofs.Ytbamjcnhmmgnlaa.AL
theorem findO_only {l : List Rule} {g h : BitVec 128} : ∀ o : List Nat, (∀ k ∈ o, hasC (l.getD k r0).mt g = hasC (l.getD k r0).mt h) → findO l g o = findO l h o
  | [], _ => rfl
  | k :: o, ho => by
    have ih := findO_only (l := l) (g := g) (h := h) o fun j hj => ho j (by simp [hj])
    unfold findO
    rw [ho k (by simp), ih]
theorem findR_congr {l : List Rule} {g h : BitVec 128} (hr : ∀ k, k < l.length → hasC (l.getD k r0).mt g = hasC (l.getD k r0).mt h) : findR l g = findR l h := by
  unfold findR
  exact findO_only _ fun k hk => hr k (orderR_lt hk)
def AlikeP (L : List Cube) (g h : BitVec 128) : Prop := ∀ q ∈ L, hasC q g = hasC q h
theorem has_set {q s : Cube} (hq : q.sound = true) (g : BitVec 128) : hasC q (setH g s) = (beforeO q s && hasC (beforeV q s) g) := by
  rw [← hasT_sound hq, before_has hq, hasT_sound (before_sound q s)]
theorem setH_none (g : BitVec 128) : setH g ⟨0, 0⟩ = g := by
  unfold setH
  apply BitVec.eq_of_getLsbD_eq
  intro i hi
  simp only [BitVec.getLsbD_or, BitVec.getLsbD_and, BitVec.getLsbD_not, BitVec.getLsbD_zero, hi]
  simp
theorem alike_set {c : Config} {v : Int} (ok : OfOK c v) {g h : BitVec 128} (ha : AlikeP (ofV c v) g h) {s : Cube} (hs : s ∈ setsL c v) : AlikeP (ofV c v) (setH g s) (setH h s) := by
  intro q hq
  rw [has_set (ok.sound q hq), has_set (ok.sound q hq)]
  cases hb : beforeO q s
  · rfl
  · rw [ha _ (ok.closed q hq s hs hb)]
theorem rule_set {c : Config} {v : Int} {r : Rule} (hr : r ∈ rulesA c.tb) (hz : r.st ≠ ⟨0, 0⟩) : r.st ∈ setsL c v := by
  unfold setsL
  rw [fold3_flat]
  refine foldl_hit setF (fun L a x hx => ?_) (fun r => if r.st = ⟨0, 0⟩ then none else some r.st) (fun L a k hk => ?_) _ _ r _ hr (by rw [if_neg hz])
  · unfold setF; split
    · exact hx
    · exact addC_sub _ _ _ hx
  · split at hk
    · cases hk
    · rename_i hn
      cases hk
      unfold setF; rw [if_neg hn]
      exact addC_mem.2 (.inr rfl)
theorem alike_rule {c : Config} {v : Int} (ok : OfOK c v) {g h : BitVec 128} (ha : AlikeP (ofV c v) g h) {r : Rule} (hr : r ∈ rulesA c.tb) : AlikeP (ofV c v) (setH g r.st) (setH h r.st) := by
  by_cases hz : r.st = ⟨0, 0⟩
  · rw [hz, setH_none, setH_none]; exact ha
  · exact alike_set ok ha (rule_set hr hz)
theorem stamp_in {c : Config} {v : Int} (h : predE c v = 0) {s : Spot} (hs : s ∈ edgesT c.tp) : stampC c s v ∈ setsL c v := by
  unfold setsL
  rw [fold3_flat]
  refine foldl_sub setF (fun L a x hx => ?_) _ _ _ ?_
  · unfold setF; split
    · exact hx
    · exact addC_sub _ _ _ hx
  · unfold setsE
    exact foldl_hit (stampF c v) (fun L a x hx => addC_sub _ _ _ hx) (fun s => some (stampC c s v)) (fun L a k hk => by cases hk; exact addC_mem.2 (.inr rfl)) _ _ s _ hs rfl
theorem rule_in {c : Config} {n t k : Nat} (hn : n < c.tb.length) (ht : t < (c.tb.getD n []).length) (hk : k < (tabW c n t).length) : (tabW c n t).getD k r0 ∈ rulesA c.tb := by
  unfold tabW at *
  unfold rulesA
  refine List.mem_flatten.2 ⟨(c.tb.getD n []).flatten, List.mem_map.2 ⟨_, getD_in hn _, rfl⟩, List.mem_flatten.2 ⟨_, getD_in ht _, getD_in hk _⟩⟩
theorem edge_neg {t : List (List Port)} {s : Spot} (h : s ∉ edgesT t) : edgeT t s < 0 := by
  unfold edgeT
  split
  · decide
  · rename_i h1
    split
    · decide
    · rename_i h2
      split
      · rename_i h3
        exfalso
        exact h (edgesTo_mem.2 ⟨s.sw.toNat, s.po.toNat, by omega, by omega, h3, by
          obtain ⟨a, b⟩ := s
          simp only [] at h1 h2 ⊢
          rw [Int.toNat_of_nonneg (by omega), Int.toNat_of_nonneg (by omega)]⟩)
      · decide
def hopE (l : List Hop) : List (Int × Int × Int) := l.map fun x => (x.sw, x.tb, x.ru)
theorem goW_alike {c : Config} {v : Int} (ok : OfOK c v) (hs : soundC c = 0) : ∀ (f n t : Nat) (g h : BitVec 128) (a b : List Hop), InW c n t → AlikeP (ofV c v) g h → hopE a = hopE b →
    (goW c f n t g a).en = (goW c f n t h b).en ∧ (goW c f n t g a).an = (goW c f n t h b).an ∧ (goW c f n t g a).ap = (goW c f n t h b).ap ∧ hopE (goW c f n t g a).hops = hopE (goW c f n t h b).hops
  | 0, n, t, g, h, a, b, hw, ha, he => ⟨rfl, rfl, rfl, he⟩
  | f + 1, n, t, g, h, a, b, hw, ha, he => by
    have e : findR (tabW c n t) g = findR (tabW c n t) h := findR_congr fun k hk => ha _ (ok.has _ (rule_in hw.n1 hw.t1 hk))
    unfold goW
    rw [e]
    cases hf : findR (tabW c n t) h with
    | none => exact ⟨rfl, rfl, rfl, by simp only [hopE, List.map_append] at he ⊢; rw [he]; rfl⟩
    | some k =>
      simp only []
      have hk := findR_lt hf
      have hr := rule_in hw.n1 hw.t1 hk
      by_cases hst : stepE ((tabW c n t).getD k r0) = 0
      · rw [if_pos hst, if_pos hst]
        obtain ⟨-, -, w2⟩ := inW_next hs hw hf hst
        exact goW_alike ok hs f _ _ _ _ _ _ w2 (alike_rule ok ha hr) (by simp only [hopE, List.map_append] at he ⊢; rw [he]; rfl)
      · rw [if_neg hst, if_neg hst]
        exact ⟨rfl, rfl, rfl, by simp only [hopE, List.map_append] at he ⊢; rw [he]; rfl⟩
def alkI (L : List Cube) (c : Config) (s : Spot) (g h : BitVec 128) (v : Nat) (st : {i : Nat // i ≤ L.length ∧ ∀ j, j < i → hasC (L.getD j ⟨0, 0⟩) g = hasC (L.getD j ⟨0, 0⟩) h}) : ASt :=
  ⟨[(13, .p (.d (.v (.int .i64 (st.val : Int))))), (11, .p (.d (.sl 4 L.length (rowC L)))), (5, .p (.d (.bx (configD c)))), (6, .p (.d (.bx (spotD s)))), (8, .p (.d (.bx (hd g)))), (9, .p (.d (.bx (hd h)))), (2, .p (.d (.v (.int .u8 (v : Int)))))], []⟩
def alkR (en an ap : Int) (l : List Hop) : LV := .cells 84 [.p (.d (.v (.int .i64 en))), .p (.d (.v (.int .i64 an))), .p (.d (.v (.int .i64 ap))), .p (.d (.sl 5 l.length (rowH l)))]
def alkJ (en an ap : Int) (l m : List Hop) (i : Fin (l.length + 1)) : ASt :=
  ⟨[(18, .p (.d (.v (.int .i64 (i.val : Int))))), (16, .loc 16 0), (17, .loc 17 0)], [(16, alkR en an ap l), (17, alkR en an ap m)]⟩
theorem hopE_at {l m : List Hop} (h : hopE l = hopE m) : l.length = m.length ∧ ∀ i, i < l.length → (l.getD i hop0).sw = (m.getD i hop0).sw ∧ (l.getD i hop0).tb = (m.getD i hop0).tb ∧ (l.getD i hop0).ru = (m.getD i hop0).ru := by
  have hl : l.length = m.length := by have := congrArg List.length h; simpa [hopE] using this
  refine ⟨hl, fun i hi => ?_⟩
  have e : (hopE l)[i]? = (hopE m)[i]? := by rw [h]
  unfold hopE at e
  rw [List.getElem?_map, List.getElem?_map, List.getElem?_eq_getElem hi, List.getElem?_eq_getElem (by omega)] at e
  rw [List.getD_eq_getElem?_getD, List.getD_eq_getElem?_getD, List.getElem?_eq_getElem hi, List.getElem?_eq_getElem (by omega)]
  simpa using e
set_option maxRecDepth 100000 in
set_option maxHeartbeats 8000000 in
theorem PredsAlike_c (c : Config) (s : Spot) (v : Nat) (g h : BitVec 128) (hc : c.small) (hv : v ≤ 255) : ACalls Try.prog 9 [.agg (configD c), .agg (spotD s), .d (.v (.int .u8 (v : Int))), .agg (hd g), .agg (hd h)] (· = [.d (.v (.bool true))]) := by
  have ol := Of_c c v hc (by omega)
  have eg := EdgeR_c c.tp s hc.tp
  by_cases he : ofE c v = 0
  · have ok := of_ok he
    have h0 := (predE_zero ok.pe).1
    by_cases hm : s ∈ edgesT c.tp
    · obtain ⟨n, hn, hw⟩ := edge_in h0 hm
      obtain ⟨t1, t2⟩ := sound_tenant (sound_parts h0).1 hm
      have q0 : decide (edgeT c.tp s < 0) = false := decide_eq_false (by omega)
      have k2 := ok.len
      have k4 := ok.sound
      rw [he] at ol
      have fin : AlikeP (ofV c v) g h → ∃ en an ap l m, hopE l = hopE m ∧ l.length ≤ 200 ∧ ACalls Try.prog 34 [.agg (configD c), .agg (spotD s), .agg (hd g), .d (.v (.int .i64 (v : Int))), .d (.v (.int .i64 200))] (· = [.agg (runD ⟨en, an, ap, l⟩)]) ∧
          ACalls Try.prog 34 [.agg (configD c), .agg (spotD s), .agg (hd h), .d (.v (.int .i64 (v : Int))), .d (.v (.int .i64 200))] (· = [.agg (runD ⟨en, an, ap, m⟩)]) := by
        intro ha
        have ha2 := alike_set ok ha (stamp_in ok.pe hm)
        obtain ⟨tn, e1, e2, e3, e4⟩ := stampC_at ok.pe hm
        rw [e4, stamp_eq g tn v (by omega) (by omega), stamp_eq h tn v (by omega) (by omega)] at ha2
        obtain ⟨r1, r2, r3, r4⟩ := goW_alike ok h0 200 n 0 _ _ [] [] hw ha2 rfl
        have e5 : (edgeT c.tp s).toNat + 1 = tn + 1 := by rw [e2]; simp
        have c1 := RefRun_c c s g v 200 _ hc hv (by decide) h0 hm n hn hw rfl
        have c2 := RefRun_c c s h v 200 _ hc hv (by decide) h0 hm n hn hw rfl
        rw [e5] at c1 c2
        have gl := goW_len c 200 n 0 (stampR g (tn + 1) v) []
        generalize goW c 200 n 0 (stampR g (tn + 1) v) [] = A at r1 r2 r3 r4 c1 gl
        generalize goW c 200 n 0 (stampR h (tn + 1) v) [] = B at r1 r2 r3 r4 c2
        obtain ⟨a1, a2, a3, a4⟩ := A
        obtain ⟨b1, b2, b3, b4⟩ := B
        simp only [] at r1 r2 r3 r4
        subst r1 r2 r3
        exact ⟨a1, a2, a3, a4, b4, r4, by simpa using gl, c1, c2⟩
      unfold AlikeP at fin
      clear ok t1 t2
      generalize edgeT c.tp s = eT at eg q0
      generalize ofV c v = L at ol k2 k4 fin
      refine q11 Try.func9 rfl (by decide +kernel) (by rw [Try.ntmps9]; simp) ?_; rw [Try.ntmps9]; simp only [frOf]
      (repeat (first | refine j0 ?_ | refine q7 rfl ?_ | refine z7 rfl ?_ | refine x6 ?_ | (refine z5 fun K hK => ?_) | (refine j5 (by kernel_rfl) (by kernel_rfl) fun K hK => ?_) | ((first | refine q6 ?_ | refine z6 ?_ | ((first | refine z3 (hK _ ?_) | refine j4 (hK _ _ (z4 (by kernel_rfl)) ?_)); clear hK K)); (first | show AWP _ _ _ _ _ | ((try simp only [j6]); first | show loopQ _ _ _ _ _ _ | show cutQ _ _ _ _ | show AWP _ _ _ _ _))) | ((first | refine z9 rfl rfl rfl ?_ | refine x9 rfl rfl rfl ?_); simp (maxSteps := 2000000) (disch := omega) only [go_sem, seval, hd, cb, configD, spotD, j10, q0]; (first | refine ⟨_, ol, ?_⟩ | refine ⟨_, awake13_c, ?_⟩ | refine ⟨_, eg, ?_⟩)) | ((first | refine x7 [] rfl ?_ | refine j7 [] rfl ?_); simp (maxSteps := 2000000) (disch := omega) only [go_sem, seval, hd, cb, configD, spotD, j10, q0]; (repeat (first | refine ⟨by omega, ?_⟩ | refine ⟨True.intro, ?_⟩)))))
      refine awp_loop (alkI L c s g h v) (fun s => L.length - s.val) ⟨0, by omega, fun j hj => by omega⟩ ?_ (fun st => ?_)
      · unfold alkI
        refine Weak.list ?_ ?_; (all_goals simp (disch := omega) only [AllF, AllL, q10, z10, j9, exists_eq_left', Option.some.injEq, go_sem, seval, hd, cb, configD, spotD, j10, q0]); (all_goals (repeat' (with_reducible apply And.intro))); (all_goals try (first | exact q8 rfl | (refine x10 ?_; omega) | (refine q8 ?_; simp; done)))
      obtain ⟨i, hi9, ha⟩ := st
      unfold alkI
      simp only []
      by_cases hn2 : i < L.length
      · have r1 := rowC_at L i
        have sx := k4 _ (getD_in hn2 ⟨0, 0⟩)
        have hx : hasC (L.getD i ⟨0, 0⟩) g = hasC (L.getD i ⟨0, 0⟩) h → ∀ j, j < i + 1 → hasC (L.getD j ⟨0, 0⟩) g = hasC (L.getD j ⟨0, 0⟩) h := fun e j hj => by
          by_cases hji : j = i
          · subst hji; exact e
          · exact ha j (by omega)
        generalize L.getD i ⟨0, 0⟩ = x at r1 sx hx
        have tx := Text_c x
        rw [sx, if_pos rfl] at tx
        have h1 := Hast_c x g
        have h2 := Hast_c x h
        rw [hasT_sound sx] at h1 h2
        cases e1 : hasC x g <;> cases e2 : hasC x h
        all_goals
          rw [e1] at h1 hx
          rw [e2] at h2 hx
          (repeat (first | refine j0 ?_ | refine q7 rfl ?_ | refine z7 rfl ?_ | refine x6 ?_ | (refine z5 fun K hK => ?_) | (refine j5 (by kernel_rfl) (by kernel_rfl) fun K hK => ?_) | ((first | refine q6 ?_ | refine z6 ?_ | ((first | refine z3 (hK _ ?_) | refine j4 (hK _ _ (z4 (by kernel_rfl)) ?_)); clear hK K)); (first | show AWP _ _ _ _ _ | ((try simp only [j6]); first | show loopQ _ _ _ _ _ _ | show cutQ _ _ _ _ | show AWP _ _ _ _ _))) | ((first | refine z9 rfl rfl rfl ?_ | refine x9 rfl rfl rfl ?_); simp (maxSteps := 2000000) (disch := omega) only [go_sem, seval, hd, cb, configD, spotD, j10, r1]; (first | refine ⟨_, tx, ?_⟩ | refine ⟨_, h1, ?_⟩ | refine ⟨_, h2, ?_⟩)) | ((first | refine x7 [] rfl ?_ | refine j7 [] rfl ?_); simp (maxSteps := 2000000) (disch := omega) only [go_sem, seval, hd, cb, configD, spotD, j10, r1]; (repeat (first | refine ⟨by omega, ?_⟩ | refine ⟨True.intro, ?_⟩)))))
        · refine ⟨⟨i + 1, by omega, hx rfl⟩, by simp only []; omega, ?_⟩
          refine Weak.list ?_ ?_; (all_goals simp (disch := omega) only [AllF, AllL, q10, z10, j9, exists_eq_left', Option.some.injEq, go_sem, seval, hd, cb, configD, spotD, j10, r1]); (all_goals (repeat' (with_reducible apply And.intro))); (all_goals try (first | exact q8 rfl | (refine x10 ?_; omega) | (refine q8 ?_; simp; done)))
        · refine j8 ⟨_, ?_, rfl⟩; rw [Try.results9]; simp (disch := omega) only [ResVars, ResVar, ptrLoc, go_sem, seval, hd, cb, configD, spotD, j10, r1]
        · refine j8 ⟨_, ?_, rfl⟩; rw [Try.results9]; simp (disch := omega) only [ResVars, ResVar, ptrLoc, go_sem, seval, hd, cb, configD, spotD, j10, r1]
        · refine ⟨⟨i + 1, by omega, hx rfl⟩, by simp only []; omega, ?_⟩
          refine Weak.list ?_ ?_; (all_goals simp (disch := omega) only [AllF, AllL, q10, z10, j9, exists_eq_left', Option.some.injEq, go_sem, seval, hd, cb, configD, spotD, j10, r1]); (all_goals (repeat' (with_reducible apply And.intro))); (all_goals try (first | exact q8 rfl | (refine x10 ?_; omega) | (refine q8 ?_; simp; done)))
      · have : i = L.length := by omega
        subst this
        obtain ⟨en, an, ap, l, m, hE, hl, c1, c2⟩ := fin fun q hq => by
          obtain ⟨j, hj, rfl⟩ := List.getElem_of_mem hq
          have := ha j hj
          rwa [List.getD_eq_getElem?_getD, List.getElem?_eq_getElem hj] at this
        obtain ⟨hlm, hat⟩ := hopE_at hE
        unfold runD at c1 c2
        simp only [] at c1 c2
        have q1 : (en != en) = false := ine_ff rfl
        have q2 : eqI [an, ap] [an, ap] = true := eqI_rfl _
        have q3 : ((l.length : Int) != (m.length : Int)) = false := ine_ff (by rw [hlm])
        (repeat (first | refine j0 ?_ | refine q7 rfl ?_ | refine z7 rfl ?_ | refine x6 ?_ | (refine z5 fun K hK => ?_) | (refine j5 (by kernel_rfl) (by kernel_rfl) fun K hK => ?_) | ((first | refine q6 ?_ | refine z6 ?_ | ((first | refine z3 (hK _ ?_) | refine j4 (hK _ _ (z4 (by kernel_rfl)) ?_)); clear hK K)); (first | show AWP _ _ _ _ _ | ((try simp only [j6]); first | show loopQ _ _ _ _ _ _ | show cutQ _ _ _ _ | show AWP _ _ _ _ _))) | ((first | refine z9 rfl rfl rfl ?_ | refine x9 rfl rfl rfl ?_); simp (maxSteps := 2000000) (disch := omega) only [go_sem, seval, hd, cb, configD, spotD, j10, q1, q2, q3]; (first | refine ⟨_, c1, ?_⟩ | refine ⟨_, c2, ?_⟩)) | ((first | refine x7 [] rfl ?_ | refine j7 [] rfl ?_); simp (maxSteps := 2000000) (disch := omega) only [go_sem, seval, hd, cb, configD, spotD, j10, q1, q2, q3]; (repeat (first | refine ⟨by omega, ?_⟩ | refine ⟨True.intro, ?_⟩)))))
        refine awp_loop (alkJ en an ap l m) (fun s => l.length - s.val) ⟨0, by omega⟩ ?_ (fun st => ?_)
        · unfold alkJ alkR
          refine Weak.list ?_ ?_; (all_goals simp (disch := omega) only [AllF, AllL, q10, z10, j9, exists_eq_left', Option.some.injEq, go_sem, seval, hd, cb, configD, spotD, j10, q1, q2, q3]); (all_goals (repeat' (with_reducible apply And.intro))); (all_goals try (first | exact q8 rfl | (refine x10 ?_; omega) | (refine q8 ?_; simp; done)))
        obtain ⟨k, hk9⟩ := st
        unfold alkJ alkR
        simp only []
        by_cases hk : k < l.length
        · have r1 := rowH_at l k
          have r2 := rowH_at m k
          obtain ⟨x1, x2, x3⟩ := hat k hk
          generalize l.getD k hop0 = x at r1 x1 x2 x3
          generalize m.getD k hop0 = y at r2 x1 x2 x3
          obtain ⟨a1, a2, a3, a4⟩ := x
          obtain ⟨b1, b2, b3, b4⟩ := y
          simp only [] at x1 x2 x3
          subst x1 x2 x3
          unfold hopD at r1 r2
          have p1 : (a1 != a1) = false := ine_ff rfl
          have p2 : (a2 != a2) = false := ine_ff rfl
          have p3 : (a3 != a3) = false := ine_ff rfl
          (repeat (first | refine j0 ?_ | refine q7 rfl ?_ | refine z7 rfl ?_ | refine x6 ?_ | (refine z5 fun K hK => ?_) | (refine j5 (by kernel_rfl) (by kernel_rfl) fun K hK => ?_) | ((first | refine q6 ?_ | refine z6 ?_ | ((first | refine z3 (hK _ ?_) | refine j4 (hK _ _ (z4 (by kernel_rfl)) ?_)); clear hK K)); (first | show AWP _ _ _ _ _ | ((try simp only [j6]); first | show loopQ _ _ _ _ _ _ | show cutQ _ _ _ _ | show AWP _ _ _ _ _))) | ((first | refine x7 [] rfl ?_ | refine j7 [] rfl ?_); simp (maxSteps := 2000000) (disch := omega) only [go_sem, seval, hd, cb, configD, spotD, j10, r1, r2, p1, p2, p3]; (repeat (first | refine ⟨by omega, ?_⟩ | refine ⟨True.intro, ?_⟩)))))
          refine ⟨⟨k + 1, by omega⟩, by simp only []; omega, ?_⟩
          refine Weak.list ?_ ?_; (all_goals simp (disch := omega) only [AllF, AllL, q10, z10, j9, exists_eq_left', Option.some.injEq, go_sem, seval, hd, cb, configD, spotD, j10, r1, r2, p1, p2, p3]); (all_goals (repeat' (with_reducible apply And.intro))); (all_goals try (first | exact q8 rfl | (refine x10 ?_; omega) | (refine q8 ?_; simp; done)))
        · have : k = l.length := by omega
          subst this
          (repeat (first | refine j0 ?_ | refine q7 rfl ?_ | refine z7 rfl ?_ | refine x6 ?_ | (refine z5 fun K hK => ?_) | (refine j5 (by kernel_rfl) (by kernel_rfl) fun K hK => ?_) | ((first | refine q6 ?_ | refine z6 ?_ | ((first | refine z3 (hK _ ?_) | refine j4 (hK _ _ (z4 (by kernel_rfl)) ?_)); clear hK K)); (first | show AWP _ _ _ _ _ | ((try simp only [j6]); first | show loopQ _ _ _ _ _ _ | show cutQ _ _ _ _ | show AWP _ _ _ _ _))) | ((first | refine x7 [] rfl ?_ | refine j7 [] rfl ?_); simp (maxSteps := 2000000) (disch := omega) only [go_sem, seval, hd, cb, configD, spotD, j10]; (repeat (first | refine ⟨by omega, ?_⟩ | refine ⟨True.intro, ?_⟩)))))
          refine j8 ⟨_, ?_, rfl⟩; rw [Try.results9]; simp (disch := omega) only [ResVars, ResVar, ptrLoc, go_sem, seval, hd, cb, configD, spotD, j10]
    · have q0 : decide (edgeT c.tp s < 0) = true := decide_eq_true (edge_neg hm)
      rw [he] at ol
      generalize edgeT c.tp s = eT at eg q0
      generalize ofV c v = L at ol
      refine q11 Try.func9 rfl (by decide +kernel) (by rw [Try.ntmps9]; simp) ?_; rw [Try.ntmps9]; simp only [frOf]
      (repeat (first | refine j0 ?_ | refine q7 rfl ?_ | refine z7 rfl ?_ | refine x6 ?_ | (refine z5 fun K hK => ?_) | (refine j5 (by kernel_rfl) (by kernel_rfl) fun K hK => ?_) | ((first | refine q6 ?_ | refine z6 ?_ | ((first | refine z3 (hK _ ?_) | refine j4 (hK _ _ (z4 (by kernel_rfl)) ?_)); clear hK K)); (first | show AWP _ _ _ _ _ | ((try simp only [j6]); first | show loopQ _ _ _ _ _ _ | show cutQ _ _ _ _ | show AWP _ _ _ _ _))) | ((first | refine z9 rfl rfl rfl ?_ | refine x9 rfl rfl rfl ?_); simp (maxSteps := 2000000) (disch := omega) only [go_sem, seval, hd, cb, configD, spotD, j10, q0]; (first | refine ⟨_, ol, ?_⟩ | refine ⟨_, awake13_c, ?_⟩ | refine ⟨_, eg, ?_⟩)) | ((first | refine x7 [] rfl ?_ | refine j7 [] rfl ?_); simp (maxSteps := 2000000) (disch := omega) only [go_sem, seval, hd, cb, configD, spotD, j10, q0]; (repeat (first | refine ⟨by omega, ?_⟩ | refine ⟨True.intro, ?_⟩)))))
      refine j8 ⟨_, ?_, rfl⟩; rw [Try.results9]; simp (disch := omega) only [ResVars, ResVar, ptrLoc, go_sem, seval, hd, cb, configD, spotD, j10, q0]
  · have q : (ofE c v != 0) = true := ine_tt he
    generalize ofE c v = e at *
    generalize ofV c v = L at *
    refine q11 Try.func9 rfl (by decide +kernel) (by rw [Try.ntmps9]; simp) ?_; rw [Try.ntmps9]; simp only [frOf]
    (repeat (first | refine j0 ?_ | refine q7 rfl ?_ | refine z7 rfl ?_ | refine x6 ?_ | (refine z5 fun K hK => ?_) | (refine j5 (by kernel_rfl) (by kernel_rfl) fun K hK => ?_) | ((first | refine q6 ?_ | refine z6 ?_ | ((first | refine z3 (hK _ ?_) | refine j4 (hK _ _ (z4 (by kernel_rfl)) ?_)); clear hK K)); (first | show AWP _ _ _ _ _ | ((try simp only [j6]); first | show loopQ _ _ _ _ _ _ | show cutQ _ _ _ _ | show AWP _ _ _ _ _))) | ((first | refine z9 rfl rfl rfl ?_ | refine x9 rfl rfl rfl ?_); simp (maxSteps := 2000000) (disch := omega) only [go_sem, seval, hd, cb, configD, spotD, j10, q]; (first | refine ⟨_, ol, ?_⟩ | refine ⟨_, awake13_c, ?_⟩)) | ((first | refine x7 [] rfl ?_ | refine j7 [] rfl ?_); simp (maxSteps := 2000000) (disch := omega) only [go_sem, seval, hd, cb, configD, spotD, j10, q]; (repeat (first | refine ⟨by omega, ?_⟩ | refine ⟨True.intro, ?_⟩)))))
    refine j8 ⟨_, ?_, rfl⟩; rw [Try.results9]; simp (disch := omega) only [ResVars, ResVar, ptrLoc, go_sem, seval, hd, cb, configD, spotD, j10, q]
end Go.Proofs.Ytbamjcnhmmgnlaa
