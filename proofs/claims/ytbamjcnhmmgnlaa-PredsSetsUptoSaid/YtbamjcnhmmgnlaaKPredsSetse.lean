/- Part 5 of a proof: lemmas beneath the theorem that the last text bears. Conditions: none. -/
import Derived.Test.YtbamjcnhmmgnlaaKPredsSetsd
set_option linter.unusedSimpArgs false
set_option linter.unusedVariables false
namespace Go.Proofs.Ytbamjcnhmmgnlaa
open Go Go.Proofs.Ytbamjcnhmmgnlaa.AL
def fold1 (f : List Cube → Rule → List Cube) (l : List Rule) (L : List Cube) : List Cube := l.foldl f L
def fold2 (f : List Cube → Rule → List Cube) (t : List (List Rule)) (L : List Cube) : List Cube := t.foldl (fun L l => fold1 f l L) L
def fold3 (f : List Cube → Rule → List Cube) (b : List (List (List Rule))) (L : List Cube) : List Cube := b.foldl (fun L t => fold2 f t L) L
def cnt2 (t : List (List Rule)) : Nat := (t.map List.length).sum
def cnt3 (b : List (List (List Rule))) : Nat := (b.map cnt2).sum
theorem fold1_drop (f : List Cube → Rule → List Cube) (l : List Rule) (i : Nat) (h : i < l.length) (L : List Cube) : fold1 f (l.drop i) L = fold1 f (l.drop (i + 1)) (f L (l.getD i r0)) := by
  rw [drop_getD l i r0 h]; rfl
theorem fold2_drop (f : List Cube → Rule → List Cube) (t : List (List Rule)) (i : Nat) (h : i < t.length) (L : List Cube) : fold2 f (t.drop i) L = fold2 f (t.drop (i + 1)) (fold1 f (t.getD i []) L) := by
  rw [drop_getD t i [] h]; rfl
theorem fold3_drop (f : List Cube → Rule → List Cube) (b : List (List (List Rule))) (i : Nat) (h : i < b.length) (L : List Cube) : fold3 f (b.drop i) L = fold3 f (b.drop (i + 1)) (fold2 f (b.getD i []) L) := by
  rw [drop_getD b i [] h]; rfl
theorem cnt2_drop (t : List (List Rule)) (i : Nat) (h : i < t.length) : cnt2 (t.drop i) = (t.getD i []).length + cnt2 (t.drop (i + 1)) := by
  rw [drop_getD t i [] h]; simp [cnt2]
theorem cnt3_drop (b : List (List (List Rule))) (i : Nat) (h : i < b.length) : cnt3 (b.drop i) = cnt2 (b.getD i []) + cnt3 (b.drop (i + 1)) := by
  rw [drop_getD b i [] h]; simp [cnt3]
def ruA (b : List (List (List Rule))) (g : FuncId) (f : List Cube → Rule → List Cube) (R : List Cube) (s : {s : Nat × List Cube // s.1 ≤ b.length ∧ fold3 f (b.drop s.1) s.2 = R ∧ s.2.length + cnt3 (b.drop s.1) ≤ 1000000}) : ASt :=
  ⟨[(13, .p (.d (.v (.int .i64 (s.val.1 : Int))))), (12, .p (.d (.v (.int .i64 (b.length : Int))))), (11, .p (.d (.sl 1 b.length (rowTT b)))), (1, .cl (.func g) [.a1 1000 0] [])], lstL s.val.2⟩
def ruB (b : List (List (List Rule))) (i : Nat) (t : List (List Rule)) (g : FuncId) (f : List Cube → Rule → List Cube) (R : List Cube) (s : {s : Nat × List Cube // s.1 ≤ t.length ∧ fold2 f (t.drop s.1) s.2 = R ∧ s.2.length + cnt2 (t.drop s.1) + cnt3 (b.drop (i + 1)) ≤ 1000000}) : ASt :=
  ⟨[(19, .p (.d (.v (.int .i64 (s.val.1 : Int))))), (18, .p (.d (.v (.int .i64 (t.length : Int))))), (17, .p (.d (.sl 1 t.length (rowRR t)))), (13, .p (.d (.v (.int .i64 (i : Int))))), (12, .p (.d (.v (.int .i64 (b.length : Int))))), (11, .p (.d (.sl 1 b.length (rowTT b)))), (1, .cl (.func g) [.a1 1000 0] [])], lstL s.val.2⟩
def ruC (b : List (List (List Rule))) (i j : Nat) (t : List (List Rule)) (l : List Rule) (g : FuncId) (f : List Cube → Rule → List Cube) (R : List Cube) (s : {s : Nat × List Cube // s.1 ≤ l.length ∧ fold1 f (l.drop s.1) s.2 = R ∧ s.2.length + (l.length - s.1) + cnt2 (t.drop (j + 1)) + cnt3 (b.drop (i + 1)) ≤ 1000000}) : ASt :=
  ⟨[(25, .p (.d (.v (.int .i64 (s.val.1 : Int))))), (24, .p (.d (.v (.int .i64 (l.length : Int))))), (23, .p (.d (.sl 12 l.length (rowR l)))), (19, .p (.d (.v (.int .i64 (j : Int))))), (18, .p (.d (.v (.int .i64 (t.length : Int))))), (17, .p (.d (.sl 1 t.length (rowRR t)))), (13, .p (.d (.v (.int .i64 (i : Int))))), (12, .p (.d (.v (.int .i64 (b.length : Int))))), (11, .p (.d (.sl 1 b.length (rowTT b)))), (1, .cl (.func g) [.a1 1000 0] [])], lstL s.val.2⟩
set_option maxRecDepth 100000 in
set_option maxHeartbeats 4000000 in
theorem rulesP_c (c : Config) (hc : c.small) (g : FuncId) (f : List Cube → Rule → List Cube) (L : List Cube) (R : List Cube)
    (hs : ∀ L r, L.length ≤ 1000000 → MCalls Try.prog g [.ag [.loc 1000 0], .p (.agg (ruleD r))] (lstL L) (fun rs M => rs = [] ∧ M = lstL (f L r))) (hf : ∀ L r, (f L r).length ≤ L.length + 1)
    (hl : L.length + cnt3 c.tb ≤ 1000000) (hR : fold3 f c.tb L = R) :
    MCalls Try.prog 52 [.p (.agg (configD c)), .cl (.func g) [.a1 1000 0] []] (lstL L) (fun rs M => rs = [] ∧ M = lstL R) := by
  have hb := hc.tb
  unfold configD lstL lstA
  refine mcalls_of_awp Try.func52 rfl (by decide +kernel) (by rw [Try.ntmps52]; simp) (fun l X h => by simp only [AL.look] at h; (repeat' split at h); all_goals first | omega | cases h) ?_; rw [Try.ntmps52]; simp only [frA]
  (repeat (first | refine q0 ?_ | refine z6 rfl ?_ | refine x6 rfl ?_ | refine j5 ?_ | (refine x4 fun K hK => ?_) | (refine j4 (by kernel_rfl) (by kernel_rfl) fun K hK => ?_) | ((first | refine z5 ?_ | refine x5 ?_ | ((first | refine j0 (hK _ ?_) | refine z4 (hK _ _ (z3 (by kernel_rfl)) ?_)); clear hK K)); (first | show AWP _ _ _ _ _ | ((try simp only [q6]); first | show loopQ _ _ _ _ _ _ | show cutQ _ _ _ _ | show AWP _ _ _ _ _))) | ((first | refine j6 [] rfl ?_ | refine q7 [] rfl ?_); simp (maxSteps := 2000000) (disch := omega) only [go_sem, seval, hd, cb, ruleD, lstL, lstA]; (repeat (first | refine ⟨by omega, ?_⟩ | refine ⟨True.intro, ?_⟩)))))
  refine awp_loop (ruA c.tb g f R) (fun s => c.tb.length - s.val.1) ⟨(0, L), by omega, by rw [List.drop_zero]; exact hR, by rw [List.drop_zero]; exact hl⟩ ?_ (fun s => ?_)
  · unfold ruA
    refine Weak.list ?_ ?_; (all_goals simp (disch := omega) only [AllF, AllL, j9, q10, x9, exists_eq_left', Option.some.injEq, go_sem, seval, hd, cb, ruleD, lstL, lstA]); (all_goals (repeat' (with_reducible apply And.intro))); (all_goals try (first | exact z7 rfl | (refine z10 ?_; omega) | (refine z7 ?_; simp; done)))
  obtain ⟨⟨i, L1⟩, hi, h1, h2⟩ := s
  simp only [] at hi h1 h2
  unfold ruA
  simp only []
  by_cases hn : i < c.tb.length
  · have r1 := rowTT_at c.tb i
    have hsm := hc.at i
    rw [fold3_drop f c.tb i hn] at h1
    rw [cnt3_drop c.tb i hn] at h2
    generalize c.tb.getD i [] = t at r1 h1 h2 hsm
    have b1 := hsm.1
    obtain ⟨R2, hR2⟩ : ∃ x, fold2 f t L1 = x := ⟨_, rfl⟩
    rw [hR2] at h1
    (repeat (first | refine q0 ?_ | refine z6 rfl ?_ | refine x6 rfl ?_ | refine j5 ?_ | (refine x4 fun K hK => ?_) | (refine j4 (by kernel_rfl) (by kernel_rfl) fun K hK => ?_) | ((first | refine z5 ?_ | refine x5 ?_ | ((first | refine j0 (hK _ ?_) | refine z4 (hK _ _ (z3 (by kernel_rfl)) ?_)); clear hK K)); (first | show AWP _ _ _ _ _ | ((try simp only [q6]); first | show loopQ _ _ _ _ _ _ | show cutQ _ _ _ _ | show AWP _ _ _ _ _))) | ((first | refine j6 [] rfl ?_ | refine q7 [] rfl ?_); simp (maxSteps := 2000000) (disch := omega) only [go_sem, seval, hd, cb, ruleD, lstL, lstA, r1]; (repeat (first | refine ⟨by omega, ?_⟩ | refine ⟨True.intro, ?_⟩)))))
    refine awp_loop (ruB c.tb i t g f R2) (fun s => t.length - s.val.1) ⟨(0, L1), by omega, by rw [List.drop_zero]; exact hR2, by rw [List.drop_zero]; simp only []; omega⟩ ?_ (fun s => ?_)
    · unfold ruB
      refine Weak.list ?_ ?_; (all_goals simp (disch := omega) only [AllF, AllL, j9, q10, x9, exists_eq_left', Option.some.injEq, go_sem, seval, hd, cb, ruleD, lstL, lstA, r1]); (all_goals (repeat' (with_reducible apply And.intro))); (all_goals try (first | exact z7 rfl | (refine z10 ?_; omega) | (refine z7 ?_; simp; done)))
    obtain ⟨⟨j, L2⟩, hj, h3, h4⟩ := s
    simp only [] at hj h3 h4
    unfold ruB
    simp only []
    by_cases hm : j < t.length
    · have r2 := rowRR_at t j
      have b2 := smallR_at hsm j
      rw [fold2_drop f t j hm] at h3
      rw [cnt2_drop t j hm] at h4
      generalize t.getD j [] = l at r2 h3 h4 b2
      obtain ⟨R3, hR3⟩ : ∃ x, fold1 f l L2 = x := ⟨_, rfl⟩
      rw [hR3] at h3
      (repeat (first | refine q0 ?_ | refine z6 rfl ?_ | refine x6 rfl ?_ | refine j5 ?_ | (refine x4 fun K hK => ?_) | (refine j4 (by kernel_rfl) (by kernel_rfl) fun K hK => ?_) | ((first | refine z5 ?_ | refine x5 ?_ | ((first | refine j0 (hK _ ?_) | refine z4 (hK _ _ (z3 (by kernel_rfl)) ?_)); clear hK K)); (first | show AWP _ _ _ _ _ | ((try simp only [q6]); first | show loopQ _ _ _ _ _ _ | show cutQ _ _ _ _ | show AWP _ _ _ _ _))) | ((first | refine j6 [] rfl ?_ | refine q7 [] rfl ?_); simp (maxSteps := 2000000) (disch := omega) only [go_sem, seval, hd, cb, ruleD, lstL, lstA, r1, r2]; (repeat (first | refine ⟨by omega, ?_⟩ | refine ⟨True.intro, ?_⟩)))))
      refine awp_loop (ruC c.tb i j t l g f R3) (fun s => l.length - s.val.1) ⟨(0, L2), by omega, by rw [List.drop_zero]; exact hR3, by simp only []; omega⟩ ?_ (fun s => ?_)
      · unfold ruC
        refine Weak.list ?_ ?_; (all_goals simp (disch := omega) only [AllF, AllL, j9, q10, x9, exists_eq_left', Option.some.injEq, go_sem, seval, hd, cb, ruleD, lstL, lstA, r1, r2]); (all_goals (repeat' (with_reducible apply And.intro))); (all_goals try (first | exact z7 rfl | (refine z10 ?_; omega) | (refine z7 ?_; simp; done)))
      obtain ⟨⟨k, L3⟩, hk, h5, h6⟩ := s
      simp only [] at hk h5 h6
      unfold ruC
      simp only []
      by_cases ho : k < l.length
      · have r3 := rowR_at l k
        rw [fold1_drop f l k ho] at h5
        generalize l.getD k r0 = r at r3 h5
        have st := hs L3 r (by omega)
        have sl := hf L3 r
        generalize f L3 r = L4 at st sl h5
        unfold lstL lstA at st
        (repeat (first | refine q0 ?_ | refine z6 rfl ?_ | refine x6 rfl ?_ | refine j5 ?_ | (refine x4 fun K hK => ?_) | (refine j4 (by kernel_rfl) (by kernel_rfl) fun K hK => ?_) | ((first | refine z5 ?_ | refine x5 ?_ | ((first | refine j0 (hK _ ?_) | refine z4 (hK _ _ (z3 (by kernel_rfl)) ?_)); clear hK K)); (first | show AWP _ _ _ _ _ | ((try simp only [q6]); first | show loopQ _ _ _ _ _ _ | show cutQ _ _ _ _ | show AWP _ _ _ _ _))) | ((first | refine j6 [] rfl ?_ | refine q7 [] rfl ?_); simp (maxSteps := 2000000) (disch := omega) only [go_sem, seval, hd, cb, ruleD, lstL, lstA, r1, r2, r3]; (repeat (first | refine ⟨by omega, ?_⟩ | refine ⟨True.intro, ?_⟩)))))
        (refine walkS_cons _ (step_mcall [(1000, 1000), (1001, 1001), (1002, 1002)] rfl rfl rfl rfl rfl rfl (st) rfl (namesOK_of (by repeat (first | exact trivial | refine ⟨rfl, ?_⟩)) (by kernel_rfl))) ?_); simp (maxSteps := 2000000) (disch := omega) only [go_sem, seval, hd, cb, ruleD, lstL, lstA, r1, r2, r3]
        (repeat (first | refine q0 ?_ | refine z6 rfl ?_ | refine x6 rfl ?_ | refine j5 ?_ | (refine x4 fun K hK => ?_) | (refine j4 (by kernel_rfl) (by kernel_rfl) fun K hK => ?_) | ((first | refine z5 ?_ | refine x5 ?_ | ((first | refine j0 (hK _ ?_) | refine z4 (hK _ _ (z3 (by kernel_rfl)) ?_)); clear hK K)); (first | show AWP _ _ _ _ _ | ((try simp only [q6]); first | show loopQ _ _ _ _ _ _ | show cutQ _ _ _ _ | show AWP _ _ _ _ _))) | ((first | refine j6 [] rfl ?_ | refine q7 [] rfl ?_); simp (maxSteps := 2000000) (disch := omega) only [go_sem, seval, hd, cb, ruleD, lstL, lstA, r1, r2, r3]; (repeat (first | refine ⟨by omega, ?_⟩ | refine ⟨True.intro, ?_⟩)))))
        refine ⟨⟨(k + 1, L4), by simp only []; omega, h5, by simp only []; omega⟩, by simp only []; omega, ?_⟩
        refine Weak.list ?_ ?_; (all_goals simp (disch := omega) only [AllF, AllL, j9, q10, x9, exists_eq_left', Option.some.injEq, go_sem, seval, hd, cb, ruleD, lstL, lstA, r1, r2, r3]); (all_goals (repeat' (with_reducible apply And.intro))); (all_goals try (first | exact z7 rfl | (refine z10 ?_; omega) | (refine z7 ?_; simp; done)))
      · have : k = l.length := by omega
        subst this
        rw [List.drop_length] at h5
        cases h5
        (repeat (first | refine q0 ?_ | refine z6 rfl ?_ | refine x6 rfl ?_ | refine j5 ?_ | (refine x4 fun K hK => ?_) | (refine j4 (by kernel_rfl) (by kernel_rfl) fun K hK => ?_) | ((first | refine z5 ?_ | refine x5 ?_ | ((first | refine j0 (hK _ ?_) | refine z4 (hK _ _ (z3 (by kernel_rfl)) ?_)); clear hK K)); (first | show AWP _ _ _ _ _ | ((try simp only [q6]); first | show loopQ _ _ _ _ _ _ | show cutQ _ _ _ _ | show AWP _ _ _ _ _))) | ((first | refine j6 [] rfl ?_ | refine q7 [] rfl ?_); simp (maxSteps := 2000000) (disch := omega) only [go_sem, seval, hd, cb, ruleD, lstL, lstA, r1, r2]; (repeat (first | refine ⟨by omega, ?_⟩ | refine ⟨True.intro, ?_⟩)))))
        refine ⟨⟨(j + 1, L3), by simp only []; omega, h3, by simp only []; omega⟩, by simp only []; omega, ?_⟩
        refine Weak.list ?_ ?_; (all_goals simp (disch := omega) only [AllF, AllL, j9, q10, x9, exists_eq_left', Option.some.injEq, go_sem, seval, hd, cb, ruleD, lstL, lstA, r1, r2]); (all_goals (repeat' (with_reducible apply And.intro))); (all_goals try (first | exact z7 rfl | (refine z10 ?_; omega) | (refine z7 ?_; simp; done)))
    · have : j = t.length := by omega
      subst this
      rw [List.drop_length] at h3
      cases h3
      (repeat (first | refine q0 ?_ | refine z6 rfl ?_ | refine x6 rfl ?_ | refine j5 ?_ | (refine x4 fun K hK => ?_) | (refine j4 (by kernel_rfl) (by kernel_rfl) fun K hK => ?_) | ((first | refine z5 ?_ | refine x5 ?_ | ((first | refine j0 (hK _ ?_) | refine z4 (hK _ _ (z3 (by kernel_rfl)) ?_)); clear hK K)); (first | show AWP _ _ _ _ _ | ((try simp only [q6]); first | show loopQ _ _ _ _ _ _ | show cutQ _ _ _ _ | show AWP _ _ _ _ _))) | ((first | refine j6 [] rfl ?_ | refine q7 [] rfl ?_); simp (maxSteps := 2000000) (disch := omega) only [go_sem, seval, hd, cb, ruleD, lstL, lstA, r1]; (repeat (first | refine ⟨by omega, ?_⟩ | refine ⟨True.intro, ?_⟩)))))
      refine ⟨⟨(i + 1, L2), by simp only []; omega, h1, ?_⟩, by simp only []; omega, ?_⟩
      · simp only [List.drop_length, cnt2, List.map_nil, List.sum_nil] at h4 ⊢
        omega
      refine Weak.list ?_ ?_; (all_goals simp (disch := omega) only [AllF, AllL, j9, q10, x9, exists_eq_left', Option.some.injEq, go_sem, seval, hd, cb, ruleD, lstL, lstA, r1]); (all_goals (repeat' (with_reducible apply And.intro))); (all_goals try (first | exact z7 rfl | (refine z10 ?_; omega) | (refine z7 ?_; simp; done)))
  · have : i = c.tb.length := by omega
    subst this
    rw [List.drop_length] at h1
    cases h1
    (repeat (first | refine q0 ?_ | refine z6 rfl ?_ | refine x6 rfl ?_ | refine j5 ?_ | (refine x4 fun K hK => ?_) | (refine j4 (by kernel_rfl) (by kernel_rfl) fun K hK => ?_) | ((first | refine z5 ?_ | refine x5 ?_ | ((first | refine j0 (hK _ ?_) | refine z4 (hK _ _ (z3 (by kernel_rfl)) ?_)); clear hK K)); (first | show AWP _ _ _ _ _ | ((try simp only [q6]); first | show loopQ _ _ _ _ _ _ | show cutQ _ _ _ _ | show AWP _ _ _ _ _))) | ((first | refine j6 [] rfl ?_ | refine q7 [] rfl ?_); simp (maxSteps := 2000000) (disch := omega) only [go_sem, seval, hd, cb, ruleD, lstL, lstA]; (repeat (first | refine ⟨by omega, ?_⟩ | refine ⟨True.intro, ?_⟩)))))
    (first | refine z5 ?_ | refine x5 ?_ | refine j0 (hK _ ?_) | refine z4 (hK _ _ (z3 (by kernel_rfl)) ?_)); (show retM _ _ _ .normal _)
    refine retM_of' [] (lstL L1) trivial ?_ ⟨rfl, rfl⟩
    simp [AL.look, lstL, lstA]
end Go.Proofs.Ytbamjcnhmmgnlaa
set_option linter.unusedSimpArgs false
set_option linter.unusedVariables false
namespace Go.Proofs.Ytbamjcnhmmgnlaa.AL
open Go
theorem step_loadC {P : Program} {nt : Nat} {ops : Array Oper} {o : Oper} {A : ASt} {t : TypeId} {x : Operand} {ti : TI} {l : Nat} {e : TypeId} {cs : List AV} (ys : List CV) (ho : o.op = .load t x) (hti : tiOf P t = some ti) (hag : ti.k.agg = true)
    (hd : dstOK nt o = true) (hw : wantedA ops o A = some true) (hx : A.eval x = .loc l 0) (hl : look A.locs l = some (.cells e cs)) (hys : cs.mapM cvAV = some ys) (hs : cs.length = ti.size) : StepS P nt ops o A (A.apply o.dst { val := .ag ys }) := by
  refine OpDo.step (lo := some l) (E := { val := .ag ys }) ⟨dstOK_spec hd, .inr ⟨hw, OpSem.toT ?_⟩, fun hf => (by cases hf), fun l L hu => (by cases hu)⟩
  refine j10 fun B w h r hr hL => ?_
  simp only [ho, Op.operands] at hr
  have h0 : RelA w h (r x) (A.eval x) := hr.2 0 (r x) _ rfl rfl
  rw [hx] at h0
  have h0' : r x = .pointer (some ⟨h.ρ l, 0, none⟩) := h0
  obtain ⟨arr, hB, hh, hsz, hg, hrr⟩ := hL l (.cells e cs) (by simp [ASt.locAt, hl])
  have hr2 : RelAs w h arr.toList cs := ⟨by simpa using hsz, fun j v c hv hc => (hrr j v c (by simpa using hv) hc).1⟩
  refine ⟨.agg arr.toList.toArray, run_load_op ho r w h0' (run_load_agg hti hag (by simp; omega) fun j v hv => ?_), arr.toList, rfl, cvs_spec hys hr2, fun u hu => ?_⟩
  · rw [Nat.zero_add, heap_cell hh]; simpa using hv
  · obtain ⟨j, hj⟩ := List.getElem?_of_mem hu
    have hlt : j < cs.length := by
      have := (List.getElem?_eq_some_iff.1 hj).1
      simp at this; omega
    exact (hrr j u cs[j] (by simpa using hj) (List.getElem?_eq_getElem hlt)).2
end Go.Proofs.Ytbamjcnhmmgnlaa.AL
set_option linter.unusedSimpArgs false
set_option linter.unusedVariables false
namespace Go.Proofs.Ytbamjcnhmmgnlaa
open Go Go.Proofs.Ytbamjcnhmmgnlaa.AL
set_option maxRecDepth 100000 in
theorem fresh_c : MCalls Try.prog 48 [] [] (fun rs M => rs = [.loc 3 0] ∧ M = [(3, .cells 127 [.p (.d (.v (.slice none 0 0))), .mp 1]), (1, .map [.u64, .u64, .u64, .u64] [])]) := by
  refine mcalls_of_awp Try.func48 rfl (by decide +kernel) (by rw [Try.ntmps48]; simp) (fun l X h => by simp only [AL.look] at h; (repeat' split at h); all_goals first | omega | cases h) ?_; rw [Try.ntmps48]; simp only [frA]
  (repeat (first | refine q0 ?_ | refine z6 rfl ?_ | refine x6 rfl ?_ | refine j5 ?_ | (refine x4 fun K hK => ?_) | (refine j4 (by kernel_rfl) (by kernel_rfl) fun K hK => ?_) | ((first | refine z5 ?_ | refine x5 ?_ | ((first | refine j0 (hK _ ?_) | refine z4 (hK _ _ (z3 (by kernel_rfl)) ?_)); clear hK K)); (first | show AWP _ _ _ _ _ | ((try simp only [q6]); first | show loopQ _ _ _ _ _ _ | show cutQ _ _ _ _ | show AWP _ _ _ _ _))) | ((first | refine j6 [3] rfl ?_ | refine q7 [3] rfl ?_); simp (maxSteps := 2000000) (disch := omega) only [go_sem, seval, hd, cb, ruleD, configD, spotD, x7]; (repeat (first | refine ⟨by omega, ?_⟩ | refine ⟨keyTy_cube, ?_⟩)))))
  refine j7 (retM_of [.loc 3 0] _ ⟨rfl, trivial⟩ ?_ ⟨rfl, rfl⟩)
  simp [AL.look]
def matchF (L : List Cube) (r : Rule) : List Cube := addC L r.mt
def setF (L : List Cube) (r : Rule) : List Cube := if r.st = ⟨0, 0⟩ then L else addC L r.st
set_option maxRecDepth 100000 in
theorem matchP_c (L : List Cube) (r : Rule) (hl : L.length ≤ 1000000) : MCalls Try.prog 59 [.ag [.loc 1000 0], .p (.agg (ruleD r))] (lstL L) (fun rs M => rs = [] ∧ M = lstL (matchF L r)) := by
  have ad := add_c L r.mt (by omega)
  unfold matchF
  generalize addC L r.mt = L2 at ad
  unfold lstL lstA at *
  refine mcalls_of_awp Try.func59 rfl (by decide +kernel) (by rw [Try.ntmps59]; simp) (fun l X h => by simp only [AL.look] at h; (repeat' split at h); all_goals first | omega | cases h) ?_; rw [Try.ntmps59]; simp only [frA]
  (repeat (first | refine q0 ?_ | refine z6 rfl ?_ | refine x6 rfl ?_ | refine j5 ?_ | (refine x4 fun K hK => ?_) | (refine j4 (by kernel_rfl) (by kernel_rfl) fun K hK => ?_) | ((first | refine z5 ?_ | refine x5 ?_ | ((first | refine j0 (hK _ ?_) | refine z4 (hK _ _ (z3 (by kernel_rfl)) ?_)); clear hK K)); (first | show AWP _ _ _ _ _ | ((try simp only [q6]); first | show loopQ _ _ _ _ _ _ | show cutQ _ _ _ _ | show AWP _ _ _ _ _))) | ((first | refine j6 [2] rfl ?_ | refine q7 [2] rfl ?_); simp (maxSteps := 2000000) (disch := omega) only [go_sem, seval, hd, cb, ruleD, configD, spotD, x7, lstL, lstA]; (repeat (first | refine ⟨by omega, ?_⟩ | refine ⟨keyTy_cube, ?_⟩)))))
  (refine walkS_cons _ (step_mcall [(1000, 1000), (1001, 1001), (1002, 1002)] rfl rfl rfl rfl rfl rfl (ad) rfl (namesOK_of (by repeat (first | exact trivial | refine ⟨rfl, ?_⟩)) (by kernel_rfl))) ?_); simp (maxSteps := 2000000) (disch := omega) only [go_sem, seval, hd, cb, ruleD, configD, spotD, x7, lstL, lstA]
  (repeat (first | refine q0 ?_ | refine z6 rfl ?_ | refine x6 rfl ?_ | refine j5 ?_ | (refine x4 fun K hK => ?_) | (refine j4 (by kernel_rfl) (by kernel_rfl) fun K hK => ?_) | ((first | refine z5 ?_ | refine x5 ?_ | ((first | refine j0 (hK _ ?_) | refine z4 (hK _ _ (z3 (by kernel_rfl)) ?_)); clear hK K)); (first | show AWP _ _ _ _ _ | ((try simp only [q6]); first | show loopQ _ _ _ _ _ _ | show cutQ _ _ _ _ | show AWP _ _ _ _ _))) | ((first | refine j6 [2] rfl ?_ | refine q7 [2] rfl ?_); simp (maxSteps := 2000000) (disch := omega) only [go_sem, seval, hd, cb, ruleD, configD, spotD, x7, lstL, lstA]; (repeat (first | refine ⟨by omega, ?_⟩ | refine ⟨keyTy_cube, ?_⟩)))))
  (first | refine z5 ?_ | refine x5 ?_ | refine j0 (hK _ ?_) | refine z4 (hK _ _ (z3 (by kernel_rfl)) ?_)); (show retM _ _ _ .normal _)
  refine retM_of' [] (lstL L2) trivial ?_ ⟨rfl, rfl⟩
  simp [AL.look, lstL, lstA]
set_option maxRecDepth 100000 in
theorem setP_c (L : List Cube) (r : Rule) (hl : L.length ≤ 1000000) : MCalls Try.prog 53 [.ag [.loc 1000 0], .p (.agg (ruleD r))] (lstL L) (fun rs M => rs = [] ∧ M = lstL (setF L r)) := by
  have ad := add_c L r.st (by omega)
  have q := eqI_cb r.st ⟨0, 0⟩
  simp only [hi_zero, lo_zero] at q
  unfold setF
  by_cases h : r.st = ⟨0, 0⟩
  · rw [if_pos h]
    rw [show (r.st == (⟨0, 0⟩ : Cube)) = true by rw [h]; exact beq_self_eq_true _] at q
    unfold lstL lstA at *
    refine mcalls_of_awp Try.func53 rfl (by decide +kernel) (by rw [Try.ntmps53]; simp) (fun l X h => by simp only [AL.look] at h; (repeat' split at h); all_goals first | omega | cases h) ?_; rw [Try.ntmps53]; simp only [frA]
    (repeat (first | refine q0 ?_ | refine z6 rfl ?_ | refine x6 rfl ?_ | refine j5 ?_ | (refine x4 fun K hK => ?_) | (refine j4 (by kernel_rfl) (by kernel_rfl) fun K hK => ?_) | ((first | refine z5 ?_ | refine x5 ?_ | ((first | refine j0 (hK _ ?_) | refine z4 (hK _ _ (z3 (by kernel_rfl)) ?_)); clear hK K)); (first | show AWP _ _ _ _ _ | ((try simp only [q6]); first | show loopQ _ _ _ _ _ _ | show cutQ _ _ _ _ | show AWP _ _ _ _ _))) | ((first | refine j6 [2] rfl ?_ | refine q7 [2] rfl ?_); simp (maxSteps := 2000000) (disch := omega) only [go_sem, seval, hd, cb, ruleD, configD, spotD, x7, lstL, lstA, q]; (repeat (first | refine ⟨by omega, ?_⟩ | refine ⟨keyTy_cube, ?_⟩)))))
    (first | refine z5 ?_ | refine x5 ?_ | refine j0 (hK _ ?_) | refine z4 (hK _ _ (z3 (by kernel_rfl)) ?_)); (show retM _ _ _ .normal _)
    refine retM_of' [] (lstL L) trivial ?_ ⟨rfl, rfl⟩
    simp [AL.look, lstL, lstA]
  · rw [if_neg h]
    rw [show (r.st == (⟨0, 0⟩ : Cube)) = false by rw [beq_eq_false_iff_ne]; exact h] at q
    generalize addC L r.st = L2 at ad
    unfold lstL lstA at *
    refine mcalls_of_awp Try.func53 rfl (by decide +kernel) (by rw [Try.ntmps53]; simp) (fun l X h => by simp only [AL.look] at h; (repeat' split at h); all_goals first | omega | cases h) ?_; rw [Try.ntmps53]; simp only [frA]
    (repeat (first | refine q0 ?_ | refine z6 rfl ?_ | refine x6 rfl ?_ | refine j5 ?_ | (refine x4 fun K hK => ?_) | (refine j4 (by kernel_rfl) (by kernel_rfl) fun K hK => ?_) | ((first | refine z5 ?_ | refine x5 ?_ | ((first | refine j0 (hK _ ?_) | refine z4 (hK _ _ (z3 (by kernel_rfl)) ?_)); clear hK K)); (first | show AWP _ _ _ _ _ | ((try simp only [q6]); first | show loopQ _ _ _ _ _ _ | show cutQ _ _ _ _ | show AWP _ _ _ _ _))) | ((first | refine j6 [2] rfl ?_ | refine q7 [2] rfl ?_); simp (maxSteps := 2000000) (disch := omega) only [go_sem, seval, hd, cb, ruleD, configD, spotD, x7, lstL, lstA, q]; (repeat (first | refine ⟨by omega, ?_⟩ | refine ⟨keyTy_cube, ?_⟩)))))
    (refine walkS_cons _ (step_mcall [(1000, 1000), (1001, 1001), (1002, 1002)] rfl rfl rfl rfl rfl rfl (ad) rfl (namesOK_of (by repeat (first | exact trivial | refine ⟨rfl, ?_⟩)) (by kernel_rfl))) ?_); simp (maxSteps := 2000000) (disch := omega) only [go_sem, seval, hd, cb, ruleD, configD, spotD, x7, lstL, lstA, q]
    (repeat (first | refine q0 ?_ | refine z6 rfl ?_ | refine x6 rfl ?_ | refine j5 ?_ | (refine x4 fun K hK => ?_) | (refine j4 (by kernel_rfl) (by kernel_rfl) fun K hK => ?_) | ((first | refine z5 ?_ | refine x5 ?_ | ((first | refine j0 (hK _ ?_) | refine z4 (hK _ _ (z3 (by kernel_rfl)) ?_)); clear hK K)); (first | show AWP _ _ _ _ _ | ((try simp only [q6]); first | show loopQ _ _ _ _ _ _ | show cutQ _ _ _ _ | show AWP _ _ _ _ _))) | ((first | refine j6 [2] rfl ?_ | refine q7 [2] rfl ?_); simp (maxSteps := 2000000) (disch := omega) only [go_sem, seval, hd, cb, ruleD, configD, spotD, x7, lstL, lstA, q]; (repeat (first | refine ⟨by omega, ?_⟩ | refine ⟨keyTy_cube, ?_⟩)))))
    (first | refine z5 ?_ | refine x5 ?_ | refine j0 (hK _ ?_) | refine z4 (hK _ _ (z3 (by kernel_rfl)) ?_)); (show retM _ _ _ .normal _)
    refine retM_of' [] (lstL L2) trivial ?_ ⟨rfl, rfl⟩
    simp [AL.look, lstL, lstA]
theorem matchF_len (L : List Cube) (r : Rule) : (matchF L r).length ≤ L.length + 1 := addC_len L r.mt
theorem setF_len (L : List Cube) (r : Rule) : (setF L r).length ≤ L.length + 1 := by
  unfold setF; split
  · omega
  · exact addC_len L r.st
theorem foldl_len {α : Type} (f : List Cube → α → List Cube) (hf : ∀ L a, (f L a).length ≤ L.length + 1) : ∀ (l : List α) (L : List Cube), (l.foldl f L).length ≤ L.length + l.length
  | [], L => by simp
  | a :: l, L => by
    have := foldl_len f hf l (f L a)
    have := hf L a
    simp only [List.foldl_cons, List.length_cons]
    omega
theorem fold1_len (f : List Cube → Rule → List Cube) (hf : ∀ L r, (f L r).length ≤ L.length + 1) (l : List Rule) (L : List Cube) : (fold1 f l L).length ≤ L.length + l.length := foldl_len f hf l L
theorem fold2_len (f : List Cube → Rule → List Cube) (hf : ∀ L r, (f L r).length ≤ L.length + 1) : ∀ (t : List (List Rule)) (L : List Cube), (fold2 f t L).length ≤ L.length + cnt2 t
  | [], L => by simp [fold2]
  | l :: t, L => by
    have h1 := fold2_len f hf t (fold1 f l L)
    have h2 := fold1_len f hf l L
    have e : fold2 f (l :: t) L = fold2 f t (fold1 f l L) := rfl
    have c : cnt2 (l :: t) = l.length + cnt2 t := by simp [cnt2]
    rw [e, c]; omega
theorem fold3_len (f : List Cube → Rule → List Cube) (hf : ∀ L r, (f L r).length ≤ L.length + 1) : ∀ (b : List (List (List Rule))) (L : List Cube), (fold3 f b L).length ≤ L.length + cnt3 b
  | [], L => by simp [fold3]
  | t :: b, L => by
    have h1 := fold3_len f hf b (fold2 f t L)
    have h2 := fold2_len f hf t L
    have e : fold3 f (t :: b) L = fold3 f b (fold2 f t L) := rfl
    have c : cnt3 (t :: b) = cnt2 t + cnt3 b := by simp [cnt3]
    rw [e, c]; omega
def stampF (c : Config) (v : Int) (L : List Cube) (s : Spot) : List Cube := addC L (stampC c s v)
def setsE (c : Config) (v : Int) : List Cube := (edgesT c.tp).foldl (stampF c v) []
def setsL (c : Config) (v : Int) : List Cube := fold3 setF c.tb (setsE c v)
def predE (c : Config) (v : Int) : Int := if soundC c ≠ 0 then soundC c else if v < 0 ∨ 255 < v then 4 else 0
def setsV (c : Config) (v : Int) : List Cube := if predE c v = 0 then setsL c v else []
def setsI (c : Config) (v : Int) (l : List Spot) (R : List Cube) (s : {s : Nat × List Cube // s.1 ≤ l.length ∧ (l.drop s.1).foldl (stampF c v) s.2 = R ∧ s.2.length ≤ s.1}) : ASt :=
  ⟨[(29, .p (.d (.v (.int .i64 (s.val.1 : Int))))), (28, .p (.d (.v (.int .i64 (l.length : Int))))), (27, .p (.d (.sl 2 l.length (rowS l)))), (7, .loc 7 0), (2, .p (.d (.bx (configD c)))), (1, .p (.d (.v (.int .i64 v))))],
   [(7, .cells 117 [.loc 601 0]), (601, .cells 127 [.ow 603 s.val.2.length 4 s.val.2.length, .mp 602]), (602, .map [.u64, .u64, .u64, .u64] (seenM s.val.2)), (603, .own 27 4 s.val.2.length s.val.2.length (rowC s.val.2))]⟩
set_option maxRecDepth 100000 in
theorem Sets_bad (c : Config) (v : Int) (hc : c.small) (e : Int) (he : e ≠ 0) (h : soundC c = e ∨ (soundC c = 0 ∧ (v < 0 ∨ 255 < v) ∧ e = 4)) : ACalls Try.prog 24 [.agg (configD c), .d (.v (.int .i64 v))] (· = [.d (.sl 4 ([] : List Cube).length (rowC [])), .d (.v (.int .i64 e))]) := by
  have so := SoundC_c c hc
  rcases h with h | ⟨h, hv, rfl⟩
  · rw [h] at so
    have q := ine_tt he
    refine z9 Try.func24 rfl (by decide +kernel) (by rw [Try.ntmps24]; simp) ?_; rw [Try.ntmps24]; simp only [frOf]
    (repeat (first | refine q0 ?_ | refine z6 rfl ?_ | refine x6 rfl ?_ | refine j5 ?_ | (refine x4 fun K hK => ?_) | (refine j4 (by kernel_rfl) (by kernel_rfl) fun K hK => ?_) | ((first | refine z5 ?_ | refine x5 ?_ | ((first | refine j0 (hK _ ?_) | refine z4 (hK _ _ (z3 (by kernel_rfl)) ?_)); clear hK K)); (first | show AWP _ _ _ _ _ | ((try simp only [q6]); first | show loopQ _ _ _ _ _ _ | show cutQ _ _ _ _ | show AWP _ _ _ _ _))) | ((first | refine j8 rfl rfl rfl ?_ | refine q9 rfl rfl rfl ?_); simp (maxSteps := 2000000) (disch := omega) only [go_sem, seval, hd, cb, ruleD, configD, spotD, x7, q]; (first | refine ⟨_, so, ?_⟩)) | ((first | refine j6 [7] rfl ?_ | refine q7 [7] rfl ?_); simp (maxSteps := 2000000) (disch := omega) only [go_sem, seval, hd, cb, ruleD, configD, spotD, x7, q]; (repeat (first | refine ⟨by omega, ?_⟩ | refine ⟨keyTy_cube, ?_⟩)))))
    refine awp_slot 4 _ (.p (.d (.sl 4 ([] : List Cube).length (rowC [])))) rfl (le_nil 4 _ _ rfl) ?_
    refine j7 ⟨_, ?_, rfl⟩; rw [Try.results24]; simp (disch := omega) only [ResVars, ResVar, ptrLoc, go_sem, seval, hd, cb, ruleD, configD, spotD, x7, q]
  · rw [h] at so
    by_cases h0 : v < 0
    · have q1 : decide (v < 0) = true := decide_eq_true h0
      refine z9 Try.func24 rfl (by decide +kernel) (by rw [Try.ntmps24]; simp) ?_; rw [Try.ntmps24]; simp only [frOf]
      (repeat (first | refine q0 ?_ | refine z6 rfl ?_ | refine x6 rfl ?_ | refine j5 ?_ | (refine x4 fun K hK => ?_) | (refine j4 (by kernel_rfl) (by kernel_rfl) fun K hK => ?_) | ((first | refine z5 ?_ | refine x5 ?_ | ((first | refine j0 (hK _ ?_) | refine z4 (hK _ _ (z3 (by kernel_rfl)) ?_)); clear hK K)); (first | show AWP _ _ _ _ _ | ((try simp only [q6]); first | show loopQ _ _ _ _ _ _ | show cutQ _ _ _ _ | show AWP _ _ _ _ _))) | ((first | refine j8 rfl rfl rfl ?_ | refine q9 rfl rfl rfl ?_); simp (maxSteps := 2000000) (disch := omega) only [go_sem, seval, hd, cb, ruleD, configD, spotD, x7, q1]; (first | refine ⟨_, so, ?_⟩)) | ((first | refine j6 [7] rfl ?_ | refine q7 [7] rfl ?_); simp (maxSteps := 2000000) (disch := omega) only [go_sem, seval, hd, cb, ruleD, configD, spotD, x7, q1]; (repeat (first | refine ⟨by omega, ?_⟩ | refine ⟨keyTy_cube, ?_⟩)))))
      refine awp_slot 4 _ (.p (.d (.sl 4 ([] : List Cube).length (rowC [])))) rfl (le_nil 4 _ _ rfl) ?_
      refine j7 ⟨_, ?_, rfl⟩; rw [Try.results24]; simp (disch := omega) only [ResVars, ResVar, ptrLoc, go_sem, seval, hd, cb, ruleD, configD, spotD, x7, q1]
    · have q1 : decide (v < 0) = false := decide_eq_false h0
      have q2 : decide (255 < v) = true := decide_eq_true (by omega)
      refine z9 Try.func24 rfl (by decide +kernel) (by rw [Try.ntmps24]; simp) ?_; rw [Try.ntmps24]; simp only [frOf]
      (repeat (first | refine q0 ?_ | refine z6 rfl ?_ | refine x6 rfl ?_ | refine j5 ?_ | (refine x4 fun K hK => ?_) | (refine j4 (by kernel_rfl) (by kernel_rfl) fun K hK => ?_) | ((first | refine z5 ?_ | refine x5 ?_ | ((first | refine j0 (hK _ ?_) | refine z4 (hK _ _ (z3 (by kernel_rfl)) ?_)); clear hK K)); (first | show AWP _ _ _ _ _ | ((try simp only [q6]); first | show loopQ _ _ _ _ _ _ | show cutQ _ _ _ _ | show AWP _ _ _ _ _))) | ((first | refine j8 rfl rfl rfl ?_ | refine q9 rfl rfl rfl ?_); simp (maxSteps := 2000000) (disch := omega) only [go_sem, seval, hd, cb, ruleD, configD, spotD, x7, q1, q2]; (first | refine ⟨_, so, ?_⟩)) | ((first | refine j6 [7] rfl ?_ | refine q7 [7] rfl ?_); simp (maxSteps := 2000000) (disch := omega) only [go_sem, seval, hd, cb, ruleD, configD, spotD, x7, q1, q2]; (repeat (first | refine ⟨by omega, ?_⟩ | refine ⟨keyTy_cube, ?_⟩)))))
      refine awp_slot 4 _ (.p (.d (.sl 4 ([] : List Cube).length (rowC [])))) rfl (le_nil 4 _ _ rfl) ?_
      refine j7 ⟨_, ?_, rfl⟩; rw [Try.results24]; simp (disch := omega) only [ResVars, ResVar, ptrLoc, go_sem, seval, hd, cb, ruleD, configD, spotD, x7, q1, q2]
set_option maxRecDepth 100000 in
set_option maxHeartbeats 4000000 in
theorem Sets_good (c : Config) (v : Int) (hc : c.small) (h : soundC c = 0) (hv : 0 ≤ v ∧ v ≤ 255) (he : (edgesT c.tp).length ≤ 1000) (ht : cnt3 c.tb ≤ 100000) : ACalls Try.prog 24 [.agg (configD c), .d (.v (.int .i64 v))] (· = [.d (.sl 4 (setsL c v).length (rowC (setsL c v))), .d (.v (.int .i64 0))]) := by
  have so := SoundC_c c hc
  have ed := EdgesT_c c.tp hc.tp
  unfold setsL setsE
  have hst : ∀ i, i < (edgesT c.tp).length → stampE c ((edgesT c.tp).getD i s0) v = 0 := fun i hi => by
    unfold stampE
    rw [if_neg (by simp [h]), if_neg (by omega), if_neg]
    unfold edgesHas
    simp only [Bool.not_eq_false, List.contains_iff_mem]
    exact getD_in hi s0
  generalize edgesT c.tp = l at ed he hst
  obtain ⟨R, hR⟩ : ∃ x, l.foldl (stampF c v) [] = x := ⟨_, rfl⟩
  have hRl : R.length ≤ 1000 := by
    have := foldl_len (stampF c v) (fun L a => addC_len L _) l []
    rw [hR] at this; simp at this; omega
  rw [hR]
  rw [h] at so
  have q1 : decide (v < 0) = false := decide_eq_false (by omega)
  have q2 : decide (255 < v) = false := decide_eq_false (by omega)
  refine z9 Try.func24 rfl (by decide +kernel) (by rw [Try.ntmps24]; simp) ?_; rw [Try.ntmps24]; simp only [frOf]
  (repeat (first | refine q0 ?_ | refine z6 rfl ?_ | refine x6 rfl ?_ | refine j5 ?_ | (refine x4 fun K hK => ?_) | (refine j4 (by kernel_rfl) (by kernel_rfl) fun K hK => ?_) | ((first | refine z5 ?_ | refine x5 ?_ | ((first | refine j0 (hK _ ?_) | refine z4 (hK _ _ (z3 (by kernel_rfl)) ?_)); clear hK K)); (first | show AWP _ _ _ _ _ | ((try simp only [q6]); first | show loopQ _ _ _ _ _ _ | show cutQ _ _ _ _ | show AWP _ _ _ _ _))) | ((first | refine j8 rfl rfl rfl ?_ | refine q9 rfl rfl rfl ?_); simp (maxSteps := 2000000) (disch := omega) only [go_sem, seval, hd, cb, ruleD, configD, spotD, x7, q1, q2]; (first | refine ⟨_, so, ?_⟩)) | ((first | refine j6 [7] rfl ?_ | refine q7 [7] rfl ?_); simp (maxSteps := 2000000) (disch := omega) only [go_sem, seval, hd, cb, ruleD, configD, spotD, x7, q1, q2]; (repeat (first | refine ⟨by omega, ?_⟩ | refine ⟨keyTy_cube, ?_⟩)))))
  (refine walkS_cons _ (step_mcall [(3, 601), (1, 602)] rfl rfl rfl rfl rfl rfl (fresh_c) rfl (namesOK_of (by repeat (first | exact trivial | refine ⟨rfl, ?_⟩)) (by kernel_rfl))) ?_); simp (maxSteps := 2000000) (disch := omega) only [go_sem, seval, hd, cb, ruleD, configD, spotD, x7, q1, q2]
  (repeat ((fail_if_success (show AWP _ _ (.region 7 _ _) _ _)); first | refine q0 ?_ | refine z6 rfl ?_ | refine x6 rfl ?_ | refine j5 ?_ | (refine x4 fun K hK => ?_) | (refine j4 (by kernel_rfl) (by kernel_rfl) fun K hK => ?_) | ((first | refine z5 ?_ | refine x5 ?_ | ((first | refine j0 (hK _ ?_) | refine z4 (hK _ _ (z3 (by kernel_rfl)) ?_)); clear hK K)); (first | show AWP _ _ _ _ _ | ((try simp only [q6]); first | show loopQ _ _ _ _ _ _ | show cutQ _ _ _ _ | show AWP _ _ _ _ _))) | ((first | refine j6 [7] rfl ?_ | refine q7 [7] rfl ?_); simp (maxSteps := 2000000) (disch := omega) only [go_sem, seval, hd, cb, ruleD, configD, spotD, x7, q1, q2]; (repeat (first | refine ⟨by omega, ?_⟩ | refine ⟨keyTy_cube, ?_⟩)))))
  refine awp_ownCell 601 603 0 4 27 (rowC []) rfl rfl (by omega) (by kernel_rfl) rfl ?_
  (repeat (first | refine q0 ?_ | refine z6 rfl ?_ | refine x6 rfl ?_ | refine j5 ?_ | (refine x4 fun K hK => ?_) | (refine j4 (by kernel_rfl) (by kernel_rfl) fun K hK => ?_) | ((first | refine z5 ?_ | refine x5 ?_ | ((first | refine j0 (hK _ ?_) | refine z4 (hK _ _ (z3 (by kernel_rfl)) ?_)); clear hK K)); (first | show AWP _ _ _ _ _ | ((try simp only [q6]); first | show loopQ _ _ _ _ _ _ | show cutQ _ _ _ _ | show AWP _ _ _ _ _))) | ((first | refine j8 rfl rfl rfl ?_ | refine q9 rfl rfl rfl ?_); simp (maxSteps := 2000000) (disch := omega) only [go_sem, seval, hd, cb, ruleD, configD, spotD, x7, q1, q2]; (first | refine ⟨_, ed, ?_⟩)) | ((first | refine j6 [7] rfl ?_ | refine q7 [7] rfl ?_); simp (maxSteps := 2000000) (disch := omega) only [go_sem, seval, hd, cb, ruleD, configD, spotD, x7, q1, q2]; (repeat (first | refine ⟨by omega, ?_⟩ | refine ⟨keyTy_cube, ?_⟩)))))
  refine awp_loop (setsI c v l R) (fun s => l.length - s.val.1) ⟨(0, []), by omega, by rw [List.drop_zero]; exact hR, by simp⟩ ?_ (fun s => ?_)
  · unfold setsI
    refine Weak.list ?_ ?_; (all_goals simp (disch := omega) only [AllF, AllL, j9, q10, x9, exists_eq_left', Option.some.injEq, go_sem, seval, hd, cb, ruleD, configD, spotD, x7, q1, q2]); (all_goals (repeat' (with_reducible apply And.intro))); (all_goals try (first | exact z7 rfl | (refine z10 ?_; omega) | (refine z7 ?_; simp; done)))
    · exact LLe.refl _
    · exact LLe.refl _
  obtain ⟨⟨i, L⟩, hi, h1, h2⟩ := s
  simp only [] at hi h1 h2
  unfold setsI
  simp only []
  by_cases hn : i < l.length
  · have r1 := rowS_at l i
    have hs0 := hst i hn
    rw [drop_getD l i s0 hn] at h1
    simp only [List.foldl_cons] at h1
    generalize l.getD i s0 = s at r1 hs0 h1
    have st := StampC_c c s v hc (by omega)
    rw [hs0] at st
    have ad := add_c L (stampC c s v) (by omega)
    have al := addC_len L (stampC c s v)
    unfold stampF at h1
    generalize addC L (stampC c s v) = L2 at ad al h1
    generalize stampC c s v = k at st ad
    unfold lstL lstA at ad
    (repeat (first | refine q0 ?_ | refine z6 rfl ?_ | refine x6 rfl ?_ | refine j5 ?_ | (refine x4 fun K hK => ?_) | (refine j4 (by kernel_rfl) (by kernel_rfl) fun K hK => ?_) | ((first | refine z5 ?_ | refine x5 ?_ | ((first | refine j0 (hK _ ?_) | refine z4 (hK _ _ (z3 (by kernel_rfl)) ?_)); clear hK K)); (first | show AWP _ _ _ _ _ | ((try simp only [q6]); first | show loopQ _ _ _ _ _ _ | show cutQ _ _ _ _ | show AWP _ _ _ _ _))) | ((first | refine j8 rfl rfl rfl ?_ | refine q9 rfl rfl rfl ?_); simp (maxSteps := 2000000) (disch := omega) only [go_sem, seval, hd, cb, ruleD, configD, spotD, x7, r1]; (first | refine ⟨_, st, ?_⟩)) | ((first | refine j6 [7] rfl ?_ | refine q7 [7] rfl ?_); simp (maxSteps := 2000000) (disch := omega) only [go_sem, seval, hd, cb, ruleD, configD, spotD, x7, r1]; (repeat (first | refine ⟨by omega, ?_⟩ | refine ⟨keyTy_cube, ?_⟩)))))
    (refine walkS_cons _ (step_mcall [(1000, 601), (1001, 602), (1002, 603)] rfl rfl rfl rfl rfl rfl (ad) rfl (namesOK_of (by repeat (first | exact trivial | refine ⟨rfl, ?_⟩)) (by kernel_rfl))) ?_); simp (maxSteps := 2000000) (disch := omega) only [go_sem, seval, hd, cb, ruleD, configD, spotD, x7, r1]
    (repeat (first | refine q0 ?_ | refine z6 rfl ?_ | refine x6 rfl ?_ | refine j5 ?_ | (refine x4 fun K hK => ?_) | (refine j4 (by kernel_rfl) (by kernel_rfl) fun K hK => ?_) | ((first | refine z5 ?_ | refine x5 ?_ | ((first | refine j0 (hK _ ?_) | refine z4 (hK _ _ (z3 (by kernel_rfl)) ?_)); clear hK K)); (first | show AWP _ _ _ _ _ | ((try simp only [q6]); first | show loopQ _ _ _ _ _ _ | show cutQ _ _ _ _ | show AWP _ _ _ _ _))) | ((first | refine j6 [7] rfl ?_ | refine q7 [7] rfl ?_); simp (maxSteps := 2000000) (disch := omega) only [go_sem, seval, hd, cb, ruleD, configD, spotD, x7, r1]; (repeat (first | refine ⟨by omega, ?_⟩ | refine ⟨keyTy_cube, ?_⟩)))))
    refine ⟨⟨(i + 1, L2), by simp only []; omega, h1, by simp only []; omega⟩, by simp only []; omega, ?_⟩
    refine Weak.list ?_ ?_; (all_goals simp (disch := omega) only [AllF, AllL, j9, q10, x9, exists_eq_left', Option.some.injEq, go_sem, seval, hd, cb, ruleD, configD, spotD, x7, r1]); (all_goals (repeat' (with_reducible apply And.intro))); (all_goals try (first | exact z7 rfl | (refine z10 ?_; omega) | (refine z7 ?_; simp; done)))
  · have : i = l.length := by omega
    subst this
    rw [List.drop_length] at h1
    obtain rfl : L = R := h1
    obtain ⟨R2, hR2⟩ : ∃ x, fold3 setF c.tb L = x := ⟨_, rfl⟩
    have ru := rulesP_c c hc 53 setF L R2 setP_c setF_len (by omega) hR2
    rw [hR2]
    unfold lstL lstA at ru
    (repeat ((fail_if_success (show AWP _ _ (.region 15 _ _) _ _)); first | refine q0 ?_ | refine z6 rfl ?_ | refine x6 rfl ?_ | refine j5 ?_ | (refine x4 fun K hK => ?_) | (refine j4 (by kernel_rfl) (by kernel_rfl) fun K hK => ?_) | ((first | refine z5 ?_ | refine x5 ?_ | ((first | refine j0 (hK _ ?_) | refine z4 (hK _ _ (z3 (by kernel_rfl)) ?_)); clear hK K)); (first | show AWP _ _ _ _ _ | ((try simp only [q6]); first | show loopQ _ _ _ _ _ _ | show cutQ _ _ _ _ | show AWP _ _ _ _ _))) | ((first | refine j6 [7] rfl ?_ | refine q7 [7] rfl ?_); simp (maxSteps := 2000000) (disch := omega) only [go_sem, seval, hd, cb, ruleD, configD, spotD, x7, Option.bind_none, Option.map_none]; (repeat (first | refine ⟨by omega, ?_⟩ | refine ⟨keyTy_cube, ?_⟩)))))
    refine x4 fun K hK => ?_
    (first | refine walkS_op2 [7] rfl rfl ?_ | refine walkD_op2 [7] rfl rfl ?_ | refine walkS_skip rfl rfl ?_ | refine walkD_skip rfl rfl ?_)
    simp (maxSteps := 2000000) (disch := omega) only [go_sem, seval, hd, cb, ruleD, configD, spotD, x7, Option.bind_none, Option.map_none]
    refine walkS_cons _ (step_loadC [.loc 601 0] rfl ty117 rfl rfl rfl rfl rfl rfl rfl) ?_
    simp (maxSteps := 2000000) (disch := omega) only [go_sem, seval, hd, cb, ruleD, configD, spotD, x7, Option.bind_none, Option.map_none]
    (repeat (first | refine q0 ?_ | refine z6 rfl ?_ | refine x6 rfl ?_ | refine j5 ?_ | (refine x4 fun K hK => ?_) | (refine j4 (by kernel_rfl) (by kernel_rfl) fun K hK => ?_) | ((first | refine z5 ?_ | refine x5 ?_ | ((first | refine j0 (hK _ ?_) | refine z4 (hK _ _ (z3 (by kernel_rfl)) ?_)); clear hK K)); (first | show AWP _ _ _ _ _ | ((try simp only [q6]); first | show loopQ _ _ _ _ _ _ | show cutQ _ _ _ _ | show AWP _ _ _ _ _))) | ((first | refine j6 [7] rfl ?_ | refine q7 [7] rfl ?_); simp (maxSteps := 2000000) (disch := omega) only [go_sem, seval, hd, cb, ruleD, configD, spotD, x7, Option.bind_none, Option.map_none]; (repeat (first | refine ⟨by omega, ?_⟩ | refine ⟨keyTy_cube, ?_⟩)))))
    (refine walkS_cons _ (step_mcall [(1000, 601), (1001, 602), (1002, 603)] rfl rfl rfl rfl rfl rfl (ru) rfl (namesOK_of (by repeat (first | exact trivial | refine ⟨rfl, ?_⟩)) (by kernel_rfl))) ?_); simp (maxSteps := 2000000) (disch := omega) only [go_sem, seval, hd, cb, ruleD, configD, spotD, x7, Option.bind_none, Option.map_none]
    (repeat (first | refine q0 ?_ | refine z6 rfl ?_ | refine x6 rfl ?_ | refine j5 ?_ | (refine x4 fun K hK => ?_) | (refine j4 (by kernel_rfl) (by kernel_rfl) fun K hK => ?_) | ((first | refine z5 ?_ | refine x5 ?_ | ((first | refine j0 (hK _ ?_) | refine z4 (hK _ _ (z3 (by kernel_rfl)) ?_)); clear hK K)); (first | show AWP _ _ _ _ _ | ((try simp only [q6]); first | show loopQ _ _ _ _ _ _ | show cutQ _ _ _ _ | show AWP _ _ _ _ _))) | ((first | refine j6 [7] rfl ?_ | refine q7 [7] rfl ?_); simp (maxSteps := 2000000) (disch := omega) only [go_sem, seval, hd, cb, ruleD, configD, spotD, x7, Option.bind_none, Option.map_none]; (repeat (first | refine ⟨by omega, ?_⟩ | refine ⟨keyTy_cube, ?_⟩)))))
    refine walkS_weak (Weak.freeze _ 56 603 R2.length 4 R2.length 27 (rowC R2) rfl rfl) ?_
    have hR3 : R2.length ≤ 101000 := by
      have := fold3_len setF setF_len c.tb L
      rw [hR2] at this; omega
    have cp := Clip_c R2.length (rowC R2) (by omega)
    simp (maxSteps := 2000000) (disch := omega) only [go_sem, seval, hd, cb, ruleD, configD, spotD, x7, Option.bind_none, Option.map_none, look_dropL]
    (repeat (first | refine q0 ?_ | refine z6 rfl ?_ | refine x6 rfl ?_ | refine j5 ?_ | (refine x4 fun K hK => ?_) | (refine j4 (by kernel_rfl) (by kernel_rfl) fun K hK => ?_) | ((first | refine z5 ?_ | refine x5 ?_ | ((first | refine j0 (hK _ ?_) | refine z4 (hK _ _ (z3 (by kernel_rfl)) ?_)); clear hK K)); (first | show AWP _ _ _ _ _ | ((try simp only [q6]); first | show loopQ _ _ _ _ _ _ | show cutQ _ _ _ _ | show AWP _ _ _ _ _))) | ((first | refine j8 rfl rfl rfl ?_ | refine q9 rfl rfl rfl ?_); simp (maxSteps := 2000000) (disch := omega) only [go_sem, seval, hd, cb, ruleD, configD, spotD, x7, Option.bind_none, Option.map_none, look_dropL]; (first | refine ⟨_, cp, ?_⟩)) | ((first | refine j6 [7] rfl ?_ | refine q7 [7] rfl ?_); simp (maxSteps := 2000000) (disch := omega) only [go_sem, seval, hd, cb, ruleD, configD, spotD, x7, Option.bind_none, Option.map_none, look_dropL]; (repeat (first | refine ⟨by omega, ?_⟩ | refine ⟨keyTy_cube, ?_⟩)))))
    refine j7 ⟨_, ?_, rfl⟩; rw [Try.results24]; simp (disch := omega) only [ResVars, ResVar, ptrLoc, go_sem, seval, hd, cb, ruleD, configD, spotD, x7, Option.bind_none, Option.map_none, look_dropL]
end Go.Proofs.Ytbamjcnhmmgnlaa
set_option linter.unusedSimpArgs false
set_option linter.unusedVariables false
namespace Go.Proofs.Ytbamjcnhmmgnlaa
open Go Go.Proofs.Ytbamjcnhmmgnlaa.AL
def onesA (x : Int) : Int := IntKind.u64.wrap (bits .and .u64 (x / 2 ^ min 1 64) 6148914691236517205 + bits .and .u64 x 6148914691236517205)
def onesB (x : Int) : Int := IntKind.u64.wrap (bits .and .u64 (x / 2 ^ min 2 64) 3689348814741910323 + bits .and .u64 x 3689348814741910323)
def onesC (x : Int) : Int := bits .and .u64 (IntKind.u64.wrap (x / 2 ^ min 4 64 + x)) 1085102592571150095
def onesD (x : Int) (n : Nat) : Int := IntKind.u64.wrap (x + x / 2 ^ min n 64)
def onesI (x : Int) : Int := bits .and .i64 (IntKind.i64.wrap (onesD (onesD (onesD (onesC (onesB (onesA x))) 8) 16) 32)) 127
theorem ones64_c (x : Int) : ACalls Try.prog 119 [.d (.v (.int .u64 x))] (· = [.d (.v (.int .i64 (onesI x)))]) := by
  unfold onesI onesD onesC onesB onesA
  refine z9 Try.func119 rfl (by decide +kernel) (by rw [Try.ntmps119]; simp) ?_; rw [Try.ntmps119]; simp only [frOf]
  (repeat (first | refine q0 ?_ | refine z6 rfl ?_ | refine x6 rfl ?_ | refine j5 ?_ | (refine x4 fun K hK => ?_) | (refine j4 (by kernel_rfl) (by kernel_rfl) fun K hK => ?_) | ((first | refine z5 ?_ | refine x5 ?_ | ((first | refine j0 (hK _ ?_) | refine z4 (hK _ _ (z3 (by kernel_rfl)) ?_)); clear hK K)); (first | show AWP _ _ _ _ _ | ((try simp only [q6]); first | show loopQ _ _ _ _ _ _ | show cutQ _ _ _ _ | show AWP _ _ _ _ _))) | ((first | refine j6 [] rfl ?_ | refine q7 [] rfl ?_); simp (maxSteps := 2000000) (disch := omega) only [go_sem, seval, hd, cb]; (repeat (first | refine ⟨by omega, ?_⟩ | refine ⟨True.intro, ?_⟩)))))
  refine j7 ⟨_, ?_, rfl⟩; rw [Try.results119]; simp (disch := omega) only [ResVars, ResVar, ptrLoc, go_sem, seval, hd, cb]
theorem bits_127 (y : Int) : 0 ≤ bits .and .i64 y 127 ∧ bits .and .i64 y 127 ≤ 127 := by
  show 0 ≤ IntKind.i64.wrap (((BitVec.ofInt 64 y &&& BitVec.ofInt 64 127).toNat : Nat) : Int) ∧ IntKind.i64.wrap (((BitVec.ofInt 64 y &&& BitVec.ofInt 64 127).toNat : Nat) : Int) ≤ 127
  have h : (BitVec.ofInt 64 y &&& BitVec.ofInt 64 127).toNat ≤ 127 := by
    rw [BitVec.toNat_and]
    exact Nat.le_trans Nat.and_le_right (by decide)
  generalize (BitVec.ofInt 64 y &&& BitVec.ofInt 64 127).toNat = n at h
  rw [wi (by omega)]
  omega
theorem onesI_le (x : Int) : 0 ≤ onesI x ∧ onesI x ≤ 127 := bits_127 _
def onesK (k : Cube) : Int := onesI (hi k.c) + onesI (lo k.c)
theorem onesK_le (k : Cube) : 0 ≤ onesK k ∧ onesK k ≤ 254 := by
  have := onesI_le (hi k.c)
  have := onesI_le (lo k.c)
  unfold onesK; omega
theorem Ones_c (k : Cube) : ACalls Try.prog 90 [.agg (hd k.c)] (· = [.d (.v (.int .i64 (onesK k)))]) := by
  have h1 := ones64_c (hi k.c)
  have h2 := ones64_c (lo k.c)
  have l1 := onesI_le (hi k.c)
  have l2 := onesI_le (lo k.c)
  unfold onesK
  generalize onesI (hi k.c) = a at h1 l1
  generalize onesI (lo k.c) = b at h2 l2
  refine z9 Try.func90 rfl (by decide +kernel) (by rw [Try.ntmps90]; simp) ?_; rw [Try.ntmps90]; simp only [frOf]
  (repeat (first | refine q0 ?_ | refine z6 rfl ?_ | refine x6 rfl ?_ | refine j5 ?_ | (refine x4 fun K hK => ?_) | (refine j4 (by kernel_rfl) (by kernel_rfl) fun K hK => ?_) | ((first | refine z5 ?_ | refine x5 ?_ | ((first | refine j0 (hK _ ?_) | refine z4 (hK _ _ (z3 (by kernel_rfl)) ?_)); clear hK K)); (first | show AWP _ _ _ _ _ | ((try simp only [q6]); first | show loopQ _ _ _ _ _ _ | show cutQ _ _ _ _ | show AWP _ _ _ _ _))) | ((first | refine j8 rfl rfl rfl ?_ | refine q9 rfl rfl rfl ?_); simp (maxSteps := 2000000) (disch := omega) only [go_sem, seval, hd, cb]; (first | refine ⟨_, h1, ?_⟩ | refine ⟨_, h2, ?_⟩)) | ((first | refine j6 [] rfl ?_ | refine q7 [] rfl ?_); simp (maxSteps := 2000000) (disch := omega) only [go_sem, seval, hd, cb]; (repeat (first | refine ⟨by omega, ?_⟩ | refine ⟨True.intro, ?_⟩)))))
  refine j7 ⟨_, ?_, rfl⟩; rw [Try.results90]; simp (disch := omega) only [ResVars, ResVar, ptrLoc, go_sem, seval, hd, cb]
theorem wide_c (a b : Cube) : ACalls Try.prog 62 [.agg (cb a), .agg (cb b)] (· = [.d (.v (.int .i64 (onesK a - onesK b)))]) := by
  have h1 := Ones_c a
  have h2 := Ones_c b
  have l1 := onesK_le a
  have l2 := onesK_le b
  generalize onesK a = x at h1 l1
  generalize onesK b = y at h2 l2
  unfold hd at h1 h2
  refine z9 Try.func62 rfl (by decide +kernel) (by rw [Try.ntmps62]; simp) ?_; rw [Try.ntmps62]; simp only [frOf]
  (repeat (first | refine q0 ?_ | refine z6 rfl ?_ | refine x6 rfl ?_ | refine j5 ?_ | (refine x4 fun K hK => ?_) | (refine j4 (by kernel_rfl) (by kernel_rfl) fun K hK => ?_) | ((first | refine z5 ?_ | refine x5 ?_ | ((first | refine j0 (hK _ ?_) | refine z4 (hK _ _ (z3 (by kernel_rfl)) ?_)); clear hK K)); (first | show AWP _ _ _ _ _ | ((try simp only [q6]); first | show loopQ _ _ _ _ _ _ | show cutQ _ _ _ _ | show AWP _ _ _ _ _))) | ((first | refine j8 rfl rfl rfl ?_ | refine q9 rfl rfl rfl ?_); simp (maxSteps := 2000000) (disch := omega) only [go_sem, seval, hd, cb]; (first | refine ⟨_, h1, ?_⟩ | refine ⟨_, h2, ?_⟩)) | ((first | refine j6 [] rfl ?_ | refine q7 [] rfl ?_); simp (maxSteps := 2000000) (disch := omega) only [go_sem, seval, hd, cb]; (repeat (first | refine ⟨by omega, ?_⟩ | refine ⟨True.intro, ?_⟩)))))
  refine j7 ⟨_, ?_, rfl⟩; rw [Try.results62]; simp (disch := omega) only [ResVars, ResVar, ptrLoc, go_sem, seval, hd, cb]
end Go.Proofs.Ytbamjcnhmmgnlaa
set_option linter.unusedSimpArgs false
set_option linter.unusedVariables false
namespace Go.Proofs.Ytbamjcnhmmgnlaa
open Go Go.Proofs.Ytbamjcnhmmgnlaa.AL
theorem sound_limits {c : Config} (h : soundC c = 0) : (edgesT c.tp).length ≤ 36 ∧ cnt3 c.tb ≤ 576 := by
  unfold soundC at h
  split at h
  · contradiction
  rename_i ht
  have ht : soundT c.tp = 0 := by simpa using ht
  split at h
  · contradiction
  split at h
  · exact absurd h (by decide)
  rename_i hl
  have hl : c.tb.length = c.tp.length := by simpa using hl
  unfold soundT at ht
  split at ht
  · exact absurd ht (by decide)
  rename_i h6
  split at ht
  · exact absurd ht (by decide)
  rename_i hlens
  have hlens : allF (lensT c.tp) c.tp.length 0 = true := by simpa using hlens
  rw [allF_iff] at hlens
  constructor
  · have key : ∀ n, n ≤ c.tp.length → (edgesTo c.tp n).length ≤ n * 6 := by
      intro n
      induction n with
      | zero => intro _; simp [edgesTo]
      | succ n ih =>
        intro hn
        have h1 := ih (by omega)
        have h2 := edgeRow_len (c.tp.getD n []) n (c.tp.getD n []).length
        have h3 := hlens n (by omega) (by omega)
        unfold lensT at h3
        have h3 := of_decide_eq_true h3
        unfold edgesTo
        simp only [List.length_append]
        omega
    have := key c.tp.length (Nat.le_refl _)
    unfold edgesT
    omega
  · have hf : ∀ i, i < c.tb.length → tabE c i = 0 := by
      have key : ∀ n i, errF (tabE c) n i = 0 → ∀ k, i ≤ k → k < i + n → tabE c k = 0 := by
        intro n
        induction n with
        | zero => intro i _ k h1 h2; omega
        | succ n ih =>
          intro i he k h1 h2
          unfold errF at he
          split at he
          · rename_i h0
            by_cases hk : k = i
            · subst hk; exact h0
            · exact ih (i + 1) he k (by omega) (by omega)
          · rename_i h0; exact absurd he h0
      intro i hi
      exact key _ 0 h i (by omega) (by omega)
    have hs : ∀ i, i < c.tb.length → cnt2 (c.tb.getD i []) ≤ 96 := by
      intro i hi
      have h1 := hf i hi
      unfold tabE soundTab at h1
      split at h1
      · exact absurd h1 (by decide)
      split at h1
      · exact absurd h1 (by decide)
      rename_i h96
      have e : ∀ (t : List (List Rule)) (n : Nat), sumR t n = cnt2 (t.take n) := by
        intro t n
        induction n with
        | zero => simp [sumR, cnt2]
        | succ n ih =>
          unfold sumR
          rw [ih]
          by_cases hn : n < t.length
          · rw [take_succ_getD t n [] hn]; simp [cnt2]
          · rw [List.getD_eq_getElem?_getD, List.getElem?_eq_none (by omega), List.take_of_length_le (by omega), List.take_of_length_le (by omega)]; simp
      rw [e, List.take_length] at h96
      omega
    have key : ∀ b : List (List (List Rule)), (∀ i, i < b.length → cnt2 (b.getD i []) ≤ 96) → cnt3 b ≤ b.length * 96 := by
      intro b
      induction b with
      | nil => intro _; simp [cnt3]
      | cons t b ih =>
        intro hb
        have h0 := hb 0 (by simp)
        have h1 := ih fun i hi => by have := hb (i + 1) (by simpa using hi); simpa using this
        have e : cnt3 (t :: b) = cnt2 t + cnt3 b := by simp [cnt3]
        simp only [List.getD_cons_zero] at h0
        rw [e, List.length_cons, Nat.add_mul]
        omega
    have := key c.tb hs
    omega
theorem Sets_c (c : Config) (v : Int) (hc : c.small) (hv : -9223372036854775808 ≤ v ∧ v < 9223372036854775808) : ACalls Try.prog 24 [.agg (configD c), .d (.v (.int .i64 v))] (· = [.d (.sl 4 (setsV c v).length (rowC (setsV c v))), .d (.v (.int .i64 (predE c v)))]) := by
  unfold setsV
  by_cases h : soundC c = 0
  · have hb := sound_limits h
    by_cases h2 : v < 0 ∨ 255 < v
    · have e : predE c v = 4 := by unfold predE; rw [if_neg (by simpa using h), if_pos h2]
      rw [e, if_neg (by decide)]
      exact Sets_bad c v hc 4 (by decide) (.inr ⟨h, h2, rfl⟩)
    · have e : predE c v = 0 := by unfold predE; rw [if_neg (by simpa using h), if_neg h2]
      rw [e, if_pos rfl]
      exact Sets_good c v hc h (by omega) (by omega) (by omega)
  · have e : predE c v = soundC c := by unfold predE; rw [if_pos h]
    rw [e, if_neg h]
    exact Sets_bad c v hc _ h (.inl rfl)
def befF (x : Cube) (L : List Cube) (s : Cube) : List Cube := if beforeO x s then addC L (beforeV x s) else L
def closeF (S : List Cube) : Nat → Nat → List Cube → List Cube
  | 0, _, L => L
  | f + 1, n, L => if n < L.length ∧ L.length ≤ 500 then closeF S f (n + 1) (S.foldl (befF (L.getD n ⟨0, 0⟩)) L) else L
def asksL (c : Config) (v : Int) : List Cube := closeF (setsL c v) 501 0 (fold3 matchF c.tb [])
def ofE (c : Config) (v : Int) : Int := if predE c v ≠ 0 then predE c v else if 500 < (asksL c v).length then 10 else 0
def ofV (c : Config) (v : Int) : List Cube := if ofE c v = 0 then isort onesK (asksL c v) else []
theorem befF_len (x : Cube) (L : List Cube) (s : Cube) : (befF x L s).length ≤ L.length + 1 := by
  unfold befF; split
  · exact addC_len _ _
  · omega
def ofA (c : Config) (S R : List Cube) (s : {s : Nat × List Cube // closeF S (501 - s.1) s.1 s.2 = R ∧ s.2.length ≤ 100000 ∧ s.1 ≤ 501}) : ASt :=
  ⟨[(9, .p (.d (.v (.int .i64 (s.val.1 : Int))))), (8, .loc 8 0), (6, .p (.d (.sl 4 S.length (rowC S))))],
   [(8, .cells 117 [.loc 601 0]), (601, .cells 127 [.ow 603 s.val.2.length 4 s.val.2.length, .mp 602]), (602, .map [.u64, .u64, .u64, .u64] (seenM s.val.2)), (603, .own 27 4 s.val.2.length s.val.2.length (rowC s.val.2))]⟩
def ofB (c : Config) (S R : List Cube) (n : Nat) (x : Cube) (s : {s : Nat × List Cube // s.1 ≤ S.length ∧ (S.drop s.1).foldl (befF x) s.2 = R ∧ s.2.length ≤ 500 + s.1 ∧ n < s.2.length ∧ s.2.getD n ⟨0, 0⟩ = x}) : ASt :=
  ⟨[(50, .p (.d (.v (.int .i64 (s.val.1 : Int))))), (49, .p (.d (.v (.int .i64 (S.length : Int))))), (48, .p (.d (.sl 4 S.length (rowC S)))), (9, .p (.d (.v (.int .i64 (n : Int))))), (8, .loc 8 0), (6, .p (.d (.sl 4 S.length (rowC S))))],
   [(8, .cells 117 [.loc 601 0]), (601, .cells 127 [.ow 603 s.val.2.length 4 s.val.2.length, .mp 602]), (602, .map [.u64, .u64, .u64, .u64] (seenM s.val.2)), (603, .own 27 4 s.val.2.length s.val.2.length (rowC s.val.2))]⟩
theorem addC_at (L : List Cube) (k : Cube) {n : Nat} (hn : n < L.length) : n < (addC L k).length ∧ (addC L k).getD n ⟨0, 0⟩ = L.getD n ⟨0, 0⟩ := by
  unfold addC
  split
  · exact ⟨hn, rfl⟩
  · refine ⟨by simp; omega, ?_⟩
    rw [List.getD_eq_getElem?_getD, List.getD_eq_getElem?_getD, List.getElem?_append_left hn]
set_option maxRecDepth 100000 in
theorem Of_bad (c : Config) (v : Int) (hc : c.small) (hv : -9223372036854775808 ≤ v ∧ v < 9223372036854775808) (h : predE c v ≠ 0) : ACalls Try.prog 28 [.agg (configD c), .d (.v (.int .i64 v))] (· = [.d (.sl 4 ([] : List Cube).length (rowC [])), .d (.v (.int .i64 (predE c v)))]) := by
  have st := Sets_c c v hc hv
  unfold setsV at st
  rw [if_neg h] at st
  generalize predE c v = e at *
  have q := ine_tt h
  refine z9 Try.func28 rfl (by decide +kernel) (by rw [Try.ntmps28]; simp) ?_; rw [Try.ntmps28]; simp only [frOf]
  (repeat (first | refine q0 ?_ | refine z6 rfl ?_ | refine x6 rfl ?_ | refine j5 ?_ | (refine x4 fun K hK => ?_) | (refine j4 (by kernel_rfl) (by kernel_rfl) fun K hK => ?_) | ((first | refine z5 ?_ | refine x5 ?_ | ((first | refine j0 (hK _ ?_) | refine z4 (hK _ _ (z3 (by kernel_rfl)) ?_)); clear hK K)); (first | show AWP _ _ _ _ _ | ((try simp only [q6]); first | show loopQ _ _ _ _ _ _ | show cutQ _ _ _ _ | show AWP _ _ _ _ _))) | ((first | refine j8 rfl rfl rfl ?_ | refine q9 rfl rfl rfl ?_); simp (maxSteps := 2000000) (disch := omega) only [go_sem, seval, hd, cb, ruleD, configD, spotD, x7, q]; (first | refine ⟨_, st, ?_⟩)) | ((first | refine j6 [8] rfl ?_ | refine q7 [8] rfl ?_); simp (maxSteps := 2000000) (disch := omega) only [go_sem, seval, hd, cb, ruleD, configD, spotD, x7, q]; (repeat (first | refine ⟨by omega, ?_⟩ | refine ⟨keyTy_cube, ?_⟩)))))
  refine awp_slot 4 _ (.p (.d (.sl 4 ([] : List Cube).length (rowC [])))) rfl (le_nil 4 _ _ rfl) ?_
  refine j7 ⟨_, ?_, rfl⟩; rw [Try.results28]; simp (disch := omega) only [ResVars, ResVar, ptrLoc, go_sem, seval, hd, cb, ruleD, configD, spotD, x7, q]
theorem wideK : CmpK Try.prog 62 onesK (fun p q => onesK p - onesK q) where
  call := wide_c
  lt := fun p q => by constructor <;> intro <;> omega
theorem seg_listK (l : List Cube) : seg (fun i => l.getD i ⟨0, 0⟩) 0 l.length = l := by
  apply List.ext_getElem
  · simp [seg_length]
  · intro k h1 h2
    simp [seg, h2]
theorem stab_listK (l : List Cube) (i : Nat) (hi : i < l.length) : rowFK (stab onesK 0 l.length (fun i => l.getD i ⟨0, 0⟩)) i = rowC (isort onesK l) i := by
  unfold rowFK rowC stab
  rw [if_pos ⟨Nat.zero_le _, hi⟩, seg_listK]
  have : i < (isort onesK l).length := by rw [isort_length]; exact hi
  simp [this]
set_option maxRecDepth 100000 in
set_option maxHeartbeats 8000000 in
theorem Of_good (c : Config) (v : Int) (hc : c.small) (hv : -9223372036854775808 ≤ v ∧ v < 9223372036854775808) (h : predE c v = 0) : ACalls Try.prog 28 [.agg (configD c), .d (.v (.int .i64 v))] (· = [.d (.sl 4 (ofV c v).length (rowC (ofV c v))), .d (.v (.int .i64 (ofE c v)))]) := by
  have h0 : soundC c = 0 := by
    unfold predE at h
    split at h
    · contradiction
    · rename_i hh; simpa using hh
  have hb := sound_limits h0
  have st := Sets_c c v hc hv
  have hSl : (setsL c v).length ≤ 1000 := by
    have h1 := foldl_len (stampF c v) (fun L a => addC_len L _) (edgesT c.tp) []
    have h2 := fold3_len setF setF_len c.tb (setsE c v)
    unfold setsL
    unfold setsE at h2 ⊢
    simp at h1; omega
  have hMl : (fold3 matchF c.tb []).length ≤ 1000 := by
    have h2 := fold3_len matchF matchF_len c.tb []
    simp at h2; omega
  have ru := rulesP_c c hc 59 matchF [] (fold3 matchF c.tb []) matchP_c matchF_len (by simp; omega) rfl
  unfold setsV at st
  rw [h, if_pos rfl] at st
  obtain ⟨R, hR⟩ : ∃ x, asksL c v = x := ⟨_, rfl⟩
  have e1 : ofE c v = if 500 < R.length then 10 else 0 := by unfold ofE; rw [hR, if_neg (by simpa using h)]
  have e2 : ofV c v = if 500 < R.length then [] else isort onesK R := by
    unfold ofV; rw [e1, hR]
    split
    · rw [if_neg (by decide)]
    · rw [if_pos rfl]
  unfold asksL at hR
  generalize setsL c v = S at st hSl hR
  generalize fold3 matchF c.tb [] = L0 at ru hMl hR
  unfold lstL lstA at ru
  refine z9 Try.func28 rfl (by decide +kernel) (by rw [Try.ntmps28]; simp) ?_; rw [Try.ntmps28]; simp only [frOf]
  (repeat (first | refine q0 ?_ | refine z6 rfl ?_ | refine x6 rfl ?_ | refine j5 ?_ | (refine x4 fun K hK => ?_) | (refine j4 (by kernel_rfl) (by kernel_rfl) fun K hK => ?_) | ((first | refine z5 ?_ | refine x5 ?_ | ((first | refine j0 (hK _ ?_) | refine z4 (hK _ _ (z3 (by kernel_rfl)) ?_)); clear hK K)); (first | show AWP _ _ _ _ _ | ((try simp only [q6]); first | show loopQ _ _ _ _ _ _ | show cutQ _ _ _ _ | show AWP _ _ _ _ _))) | ((first | refine j8 rfl rfl rfl ?_ | refine q9 rfl rfl rfl ?_); simp (maxSteps := 2000000) (disch := omega) only [go_sem, seval, hd, cb, ruleD, configD, spotD, x7, Option.bind_none, Option.map_none]; (first | refine ⟨_, st, ?_⟩)) | ((first | refine j6 [8] rfl ?_ | refine q7 [8] rfl ?_); simp (maxSteps := 2000000) (disch := omega) only [go_sem, seval, hd, cb, ruleD, configD, spotD, x7, Option.bind_none, Option.map_none]; (repeat (first | refine ⟨by omega, ?_⟩ | refine ⟨keyTy_cube, ?_⟩)))))
  (refine walkS_cons _ (step_mcall [(3, 601), (1, 602)] rfl rfl rfl rfl rfl rfl (fresh_c) rfl (namesOK_of (by repeat (first | exact trivial | refine ⟨rfl, ?_⟩)) (by kernel_rfl))) ?_); simp (maxSteps := 2000000) (disch := omega) only [go_sem, seval, hd, cb, ruleD, configD, spotD, x7, Option.bind_none, Option.map_none]
  (repeat ((fail_if_success (show AWP _ _ (.region 5 _ _) _ _)); first | refine q0 ?_ | refine z6 rfl ?_ | refine x6 rfl ?_ | refine j5 ?_ | (refine x4 fun K hK => ?_) | (refine j4 (by kernel_rfl) (by kernel_rfl) fun K hK => ?_) | ((first | refine z5 ?_ | refine x5 ?_ | ((first | refine j0 (hK _ ?_) | refine z4 (hK _ _ (z3 (by kernel_rfl)) ?_)); clear hK K)); (first | show AWP _ _ _ _ _ | ((try simp only [q6]); first | show loopQ _ _ _ _ _ _ | show cutQ _ _ _ _ | show AWP _ _ _ _ _))) | ((first | refine j6 [8] rfl ?_ | refine q7 [8] rfl ?_); simp (maxSteps := 2000000) (disch := omega) only [go_sem, seval, hd, cb, ruleD, configD, spotD, x7, Option.bind_none, Option.map_none]; (repeat (first | refine ⟨by omega, ?_⟩ | refine ⟨keyTy_cube, ?_⟩)))))
  refine awp_ownCell 601 603 0 4 27 (rowC []) rfl rfl (by omega) (by kernel_rfl) rfl ?_
  refine x4 fun K hK => ?_
  (first | refine walkS_op2 [8] rfl rfl ?_ | refine walkD_op2 [8] rfl rfl ?_ | refine walkS_skip rfl rfl ?_ | refine walkD_skip rfl rfl ?_)
  simp (maxSteps := 2000000) (disch := omega) only [go_sem, seval, hd, cb, ruleD, configD, spotD, x7, Option.bind_none, Option.map_none]
  refine walkS_cons _ (step_loadC [.loc 601 0] rfl ty117 rfl rfl rfl rfl rfl rfl rfl) ?_
  simp (maxSteps := 2000000) (disch := omega) only [go_sem, seval, hd, cb, ruleD, configD, spotD, x7, Option.bind_none, Option.map_none]
  (repeat (first | refine q0 ?_ | refine z6 rfl ?_ | refine x6 rfl ?_ | refine j5 ?_ | (refine x4 fun K hK => ?_) | (refine j4 (by kernel_rfl) (by kernel_rfl) fun K hK => ?_) | ((first | refine z5 ?_ | refine x5 ?_ | ((first | refine j0 (hK _ ?_) | refine z4 (hK _ _ (z3 (by kernel_rfl)) ?_)); clear hK K)); (first | show AWP _ _ _ _ _ | ((try simp only [q6]); first | show loopQ _ _ _ _ _ _ | show cutQ _ _ _ _ | show AWP _ _ _ _ _))) | ((first | refine j6 [8] rfl ?_ | refine q7 [8] rfl ?_); simp (maxSteps := 2000000) (disch := omega) only [go_sem, seval, hd, cb, ruleD, configD, spotD, x7, Option.bind_none, Option.map_none]; (repeat (first | refine ⟨by omega, ?_⟩ | refine ⟨keyTy_cube, ?_⟩)))))
  (refine walkS_cons _ (step_mcall [(1000, 601), (1001, 602), (1002, 603)] rfl rfl rfl rfl rfl rfl (ru) rfl (namesOK_of (by repeat (first | exact trivial | refine ⟨rfl, ?_⟩)) (by kernel_rfl))) ?_); simp (maxSteps := 2000000) (disch := omega) only [go_sem, seval, hd, cb, ruleD, configD, spotD, x7, Option.bind_none, Option.map_none]
  (repeat (first | refine q0 ?_ | refine z6 rfl ?_ | refine x6 rfl ?_ | refine j5 ?_ | (refine x4 fun K hK => ?_) | (refine j4 (by kernel_rfl) (by kernel_rfl) fun K hK => ?_) | ((first | refine z5 ?_ | refine x5 ?_ | ((first | refine j0 (hK _ ?_) | refine z4 (hK _ _ (z3 (by kernel_rfl)) ?_)); clear hK K)); (first | show AWP _ _ _ _ _ | ((try simp only [q6]); first | show loopQ _ _ _ _ _ _ | show cutQ _ _ _ _ | show AWP _ _ _ _ _))) | ((first | refine j6 [8] rfl ?_ | refine q7 [8] rfl ?_); simp (maxSteps := 2000000) (disch := omega) only [go_sem, seval, hd, cb, ruleD, configD, spotD, x7, Option.bind_none, Option.map_none]; (repeat (first | refine ⟨by omega, ?_⟩ | refine ⟨keyTy_cube, ?_⟩)))))
  refine awp_loop (ofA c S R) (fun s => 501 - s.val.1) ⟨(0, L0), hR, by simp only []; omega, by simp only []; omega⟩ ?_ (fun s => ?_)
  · unfold ofA
    refine Weak.list ?_ ?_; (all_goals simp (disch := omega) only [AllF, AllL, j9, q10, x9, exists_eq_left', Option.some.injEq, go_sem, seval, hd, cb, ruleD, configD, spotD, x7, Option.bind_none, Option.map_none]); (all_goals (repeat' (with_reducible apply And.intro))); (all_goals try (first | exact z7 rfl | (refine z10 ?_; omega) | (refine z7 ?_; simp; done)))
  obtain ⟨⟨n, L⟩, h1, h2, h3⟩ := s
  simp only [] at h1 h2 h3
  unfold ofA
  simp only []
  by_cases hn : n < L.length
  · by_cases h5 : L.length ≤ 500
    · obtain ⟨f, hf⟩ : ∃ f, 501 - n = f + 1 := ⟨500 - n, by omega⟩
      have hf2 : 501 - (n + 1) = f := by omega
      rw [hf] at h1
      unfold closeF at h1
      rw [if_pos ⟨hn, h5⟩] at h1
      obtain ⟨x, hx⟩ : ∃ x, L.getD n ⟨0, 0⟩ = x := ⟨_, rfl⟩
      rw [hx] at h1
      obtain ⟨L9, hL9⟩ : ∃ y, S.foldl (befF x) L = y := ⟨_, rfl⟩
      rw [hL9] at h1
      have hl9 : L9.length ≤ 1500 := by
        have := foldl_len (befF x) (befF_len x) S L
        rw [hL9] at this; omega
      (repeat (first | refine q0 ?_ | refine z6 rfl ?_ | refine x6 rfl ?_ | refine j5 ?_ | (refine x4 fun K hK => ?_) | (refine j4 (by kernel_rfl) (by kernel_rfl) fun K hK => ?_) | ((first | refine z5 ?_ | refine x5 ?_ | ((first | refine j0 (hK _ ?_) | refine z4 (hK _ _ (z3 (by kernel_rfl)) ?_)); clear hK K)); (first | show AWP _ _ _ _ _ | ((try simp only [q6]); first | show loopQ _ _ _ _ _ _ | show cutQ _ _ _ _ | show AWP _ _ _ _ _))) | ((first | refine j6 [8] rfl ?_ | refine q7 [8] rfl ?_); simp (maxSteps := 2000000) (disch := omega) only [go_sem, seval, hd, cb, ruleD, configD, spotD, x7]; (repeat (first | refine ⟨by omega, ?_⟩ | refine ⟨keyTy_cube, ?_⟩)))))
      refine awp_loop (ofB c S L9 n x) (fun s => S.length - s.val.1) ⟨(0, L), by omega, by rw [List.drop_zero]; exact hL9, by simp only []; omega, hn, hx⟩ ?_ (fun s => ?_)
      · unfold ofB
        refine Weak.list ?_ ?_; (all_goals simp (disch := omega) only [AllF, AllL, j9, q10, x9, exists_eq_left', Option.some.injEq, go_sem, seval, hd, cb, ruleD, configD, spotD, x7]); (all_goals (repeat' (with_reducible apply And.intro))); (all_goals try (first | exact z7 rfl | (refine z10 ?_; omega) | (refine z7 ?_; simp; done)))
      obtain ⟨⟨j, L2⟩, hj, k1, k2, k3, k4⟩ := s
      simp only [] at hj k1 k2 k3 k4
      unfold ofB
      simp only []
      by_cases hm : j < S.length
      · have r1 := rowC_at S j
        have r2 := rowC_at L2 n
        rw [k4] at r2
        rw [drop_getD S j ⟨0, 0⟩ hm] at k1
        simp only [List.foldl_cons] at k1
        generalize S.getD j ⟨0, 0⟩ = s at r1 k1
        have bf := Before_c x s
        unfold befF at k1
        have ad := add_c L2 (beforeV x s) (by omega)
        have al := addC_len L2 (beforeV x s)
        obtain ⟨at1, at2⟩ := addC_at L2 (beforeV x s) k3
        generalize addC L2 (beforeV x s) = L3 at ad al k1 at1 at2
        generalize beforeV x s = y at bf ad
        unfold lstL lstA at ad
        cases hbo : beforeO x s
        · rw [hbo] at bf k1
          simp only [Bool.false_eq_true, if_false] at k1
          (repeat (first | refine q0 ?_ | refine z6 rfl ?_ | refine x6 rfl ?_ | refine j5 ?_ | (refine x4 fun K hK => ?_) | (refine j4 (by kernel_rfl) (by kernel_rfl) fun K hK => ?_) | ((first | refine z5 ?_ | refine x5 ?_ | ((first | refine j0 (hK _ ?_) | refine z4 (hK _ _ (z3 (by kernel_rfl)) ?_)); clear hK K)); (first | show AWP _ _ _ _ _ | ((try simp only [q6]); first | show loopQ _ _ _ _ _ _ | show cutQ _ _ _ _ | show AWP _ _ _ _ _))) | ((first | refine j8 rfl rfl rfl ?_ | refine q9 rfl rfl rfl ?_); simp (maxSteps := 2000000) (disch := omega) only [go_sem, seval, hd, cb, ruleD, configD, spotD, x7, r1, r2]; (first | refine ⟨_, bf, ?_⟩)) | ((first | refine j6 [8] rfl ?_ | refine q7 [8] rfl ?_); simp (maxSteps := 2000000) (disch := omega) only [go_sem, seval, hd, cb, ruleD, configD, spotD, x7, r1, r2]; (repeat (first | refine ⟨by omega, ?_⟩ | refine ⟨keyTy_cube, ?_⟩)))))
          refine ⟨⟨(j + 1, L2), by simp only []; omega, k1, by simp only []; omega, k3, k4⟩, by simp only []; omega, ?_⟩
          refine Weak.list ?_ ?_; (all_goals simp (disch := omega) only [AllF, AllL, j9, q10, x9, exists_eq_left', Option.some.injEq, go_sem, seval, hd, cb, ruleD, configD, spotD, x7, r1, r2]); (all_goals (repeat' (with_reducible apply And.intro))); (all_goals try (first | exact z7 rfl | (refine z10 ?_; omega) | (refine z7 ?_; simp; done)))
        · rw [hbo] at bf k1
          simp only [if_true] at k1
          (repeat (first | refine q0 ?_ | refine z6 rfl ?_ | refine x6 rfl ?_ | refine j5 ?_ | (refine x4 fun K hK => ?_) | (refine j4 (by kernel_rfl) (by kernel_rfl) fun K hK => ?_) | ((first | refine z5 ?_ | refine x5 ?_ | ((first | refine j0 (hK _ ?_) | refine z4 (hK _ _ (z3 (by kernel_rfl)) ?_)); clear hK K)); (first | show AWP _ _ _ _ _ | ((try simp only [q6]); first | show loopQ _ _ _ _ _ _ | show cutQ _ _ _ _ | show AWP _ _ _ _ _))) | ((first | refine j8 rfl rfl rfl ?_ | refine q9 rfl rfl rfl ?_); simp (maxSteps := 2000000) (disch := omega) only [go_sem, seval, hd, cb, ruleD, configD, spotD, x7, r1, r2]; (first | refine ⟨_, bf, ?_⟩)) | ((first | refine j6 [8] rfl ?_ | refine q7 [8] rfl ?_); simp (maxSteps := 2000000) (disch := omega) only [go_sem, seval, hd, cb, ruleD, configD, spotD, x7, r1, r2]; (repeat (first | refine ⟨by omega, ?_⟩ | refine ⟨keyTy_cube, ?_⟩)))))
          (refine walkS_cons _ (step_mcall [(1000, 601), (1001, 602), (1002, 603)] rfl rfl rfl rfl rfl rfl (ad) rfl (namesOK_of (by repeat (first | exact trivial | refine ⟨rfl, ?_⟩)) (by kernel_rfl))) ?_); simp (maxSteps := 2000000) (disch := omega) only [go_sem, seval, hd, cb, ruleD, configD, spotD, x7, r1, r2]
          (repeat (first | refine q0 ?_ | refine z6 rfl ?_ | refine x6 rfl ?_ | refine j5 ?_ | (refine x4 fun K hK => ?_) | (refine j4 (by kernel_rfl) (by kernel_rfl) fun K hK => ?_) | ((first | refine z5 ?_ | refine x5 ?_ | ((first | refine j0 (hK _ ?_) | refine z4 (hK _ _ (z3 (by kernel_rfl)) ?_)); clear hK K)); (first | show AWP _ _ _ _ _ | ((try simp only [q6]); first | show loopQ _ _ _ _ _ _ | show cutQ _ _ _ _ | show AWP _ _ _ _ _))) | ((first | refine j6 [8] rfl ?_ | refine q7 [8] rfl ?_); simp (maxSteps := 2000000) (disch := omega) only [go_sem, seval, hd, cb, ruleD, configD, spotD, x7, r1, r2]; (repeat (first | refine ⟨by omega, ?_⟩ | refine ⟨keyTy_cube, ?_⟩)))))
          refine ⟨⟨(j + 1, L3), by simp only []; omega, k1, by simp only []; omega, at1, at2.trans k4⟩, by simp only []; omega, ?_⟩
          refine Weak.list ?_ ?_; (all_goals simp (disch := omega) only [AllF, AllL, j9, q10, x9, exists_eq_left', Option.some.injEq, go_sem, seval, hd, cb, ruleD, configD, spotD, x7, r1, r2]); (all_goals (repeat' (with_reducible apply And.intro))); (all_goals try (first | exact z7 rfl | (refine z10 ?_; omega) | (refine z7 ?_; simp; done)))
      · have : j = S.length := by omega
        subst this
        rw [List.drop_length] at k1
        obtain rfl : L2 = L9 := k1
        (repeat (first | refine q0 ?_ | refine z6 rfl ?_ | refine x6 rfl ?_ | refine j5 ?_ | (refine x4 fun K hK => ?_) | (refine j4 (by kernel_rfl) (by kernel_rfl) fun K hK => ?_) | ((first | refine z5 ?_ | refine x5 ?_ | ((first | refine j0 (hK _ ?_) | refine z4 (hK _ _ (z3 (by kernel_rfl)) ?_)); clear hK K)); (first | show AWP _ _ _ _ _ | ((try simp only [q6]); first | show loopQ _ _ _ _ _ _ | show cutQ _ _ _ _ | show AWP _ _ _ _ _))) | ((first | refine j6 [8] rfl ?_ | refine q7 [8] rfl ?_); simp (maxSteps := 2000000) (disch := omega) only [go_sem, seval, hd, cb, ruleD, configD, spotD, x7]; (repeat (first | refine ⟨by omega, ?_⟩ | refine ⟨keyTy_cube, ?_⟩)))))
        refine ⟨⟨(n + 1, L2), by simp only []; rw [hf2]; exact h1, by simp only []; omega, by simp only []; omega⟩, by simp only []; omega, ?_⟩
        refine Weak.list ?_ ?_; (all_goals simp (disch := omega) only [AllF, AllL, j9, q10, x9, exists_eq_left', Option.some.injEq, go_sem, seval, hd, cb, ruleD, configD, spotD, x7]); (all_goals (repeat' (with_reducible apply And.intro))); (all_goals try (first | exact z7 rfl | (refine z10 ?_; omega) | (refine z7 ?_; simp; done)))
    · have hR2 : L = R := by
        rw [← h1]
        cases 501 - n with
        | zero => rfl
        | succ f => unfold closeF; rw [if_neg (by omega)]
      subst hR2
      rw [e1, e2, if_pos (by omega), if_pos (by omega)]
      (repeat (first | refine q0 ?_ | refine z6 rfl ?_ | refine x6 rfl ?_ | refine j5 ?_ | (refine x4 fun K hK => ?_) | (refine j4 (by kernel_rfl) (by kernel_rfl) fun K hK => ?_) | ((first | refine z5 ?_ | refine x5 ?_ | ((first | refine j0 (hK _ ?_) | refine z4 (hK _ _ (z3 (by kernel_rfl)) ?_)); clear hK K)); (first | show AWP _ _ _ _ _ | ((try simp only [q6]); first | show loopQ _ _ _ _ _ _ | show cutQ _ _ _ _ | show AWP _ _ _ _ _))) | ((first | refine j6 [8] rfl ?_ | refine q7 [8] rfl ?_); simp (maxSteps := 2000000) (disch := omega) only [go_sem, seval, hd, cb, ruleD, configD, spotD, x7]; (repeat (first | refine ⟨by omega, ?_⟩ | refine ⟨keyTy_cube, ?_⟩)))))
      refine awp_slot 4 _ (.p (.d (.sl 4 ([] : List Cube).length (rowC [])))) rfl (le_nil 4 _ _ rfl) ?_
      refine j7 ⟨_, ?_, rfl⟩; rw [Try.results28]; simp (disch := omega) only [ResVars, ResVar, ptrLoc, go_sem, seval, hd, cb, ruleD, configD, spotD, x7]
  · have hR2 : L = R := by
      rw [← h1]
      cases 501 - n with
      | zero => rfl
      | succ f => unfold closeF; rw [if_neg (by omega)]
    subst hR2
    by_cases h5 : 500 < L.length
    · rw [e1, e2, if_pos h5, if_pos h5]
      (repeat (first | refine q0 ?_ | refine z6 rfl ?_ | refine x6 rfl ?_ | refine j5 ?_ | (refine x4 fun K hK => ?_) | (refine j4 (by kernel_rfl) (by kernel_rfl) fun K hK => ?_) | ((first | refine z5 ?_ | refine x5 ?_ | ((first | refine j0 (hK _ ?_) | refine z4 (hK _ _ (z3 (by kernel_rfl)) ?_)); clear hK K)); (first | show AWP _ _ _ _ _ | ((try simp only [q6]); first | show loopQ _ _ _ _ _ _ | show cutQ _ _ _ _ | show AWP _ _ _ _ _))) | ((first | refine j6 [8] rfl ?_ | refine q7 [8] rfl ?_); simp (maxSteps := 2000000) (disch := omega) only [go_sem, seval, hd, cb, ruleD, configD, spotD, x7]; (repeat (first | refine ⟨by omega, ?_⟩ | refine ⟨keyTy_cube, ?_⟩)))))
      refine awp_slot 4 _ (.p (.d (.sl 4 ([] : List Cube).length (rowC [])))) rfl (le_nil 4 _ _ rfl) ?_
      refine j7 ⟨_, ?_, rfl⟩; rw [Try.results28]; simp (disch := omega) only [ResVars, ResVar, ptrLoc, go_sem, seval, hd, cb, ruleD, configD, spotD, x7]
    · rw [e1, e2, if_neg h5, if_neg h5]
      have so := SortStable_cK wideK (fun i => L.getD i ⟨0, 0⟩) L.length L.length (by omega)
      have sl := stab_listK L
      have sn := isort_length (key := onesK) L
      have cp := Clip_c (isort onesK L).length (rowC (isort onesK L)) (by omega)
      rw [sn] at cp ⊢
      (repeat (first | refine q0 ?_ | refine z6 rfl ?_ | refine x6 rfl ?_ | refine j5 ?_ | (refine x4 fun K hK => ?_) | (refine j4 (by kernel_rfl) (by kernel_rfl) fun K hK => ?_) | ((first | refine z5 ?_ | refine x5 ?_ | ((first | refine j0 (hK _ ?_) | refine z4 (hK _ _ (z3 (by kernel_rfl)) ?_)); clear hK K)); (first | show AWP _ _ _ _ _ | ((try simp only [q6]); first | show loopQ _ _ _ _ _ _ | show cutQ _ _ _ _ | show AWP _ _ _ _ _))) | ((first | refine j6 [8] rfl ?_ | refine q7 [8] rfl ?_); simp (maxSteps := 2000000) (disch := omega) only [go_sem, seval, hd, cb, ruleD, configD, spotD, x7, look_dropL]; (repeat (first | refine ⟨by omega, ?_⟩ | refine ⟨keyTy_cube, ?_⟩)))))
      (refine walkS_cons _ (step_mcall [(1000, 603)] rfl rfl rfl rfl rfl rfl (so) rfl (namesOK_of (by repeat (first | exact trivial | refine ⟨rfl, ?_⟩)) (by kernel_rfl))) ?_); simp (maxSteps := 2000000) (disch := omega) only [go_sem, seval, hd, cb, ruleD, configD, spotD, x7, look_dropL]
      (repeat ((fail_if_success (show AWP _ _ (.region 19 _ _) _ _)); first | refine q0 ?_ | refine z6 rfl ?_ | refine x6 rfl ?_ | refine j5 ?_ | (refine x4 fun K hK => ?_) | (refine j4 (by kernel_rfl) (by kernel_rfl) fun K hK => ?_) | ((first | refine z5 ?_ | refine x5 ?_ | ((first | refine j0 (hK _ ?_) | refine z4 (hK _ _ (z3 (by kernel_rfl)) ?_)); clear hK K)); (first | show AWP _ _ _ _ _ | ((try simp only [q6]); first | show loopQ _ _ _ _ _ _ | show cutQ _ _ _ _ | show AWP _ _ _ _ _))) | ((first | refine j6 [8] rfl ?_ | refine q7 [8] rfl ?_); simp (maxSteps := 2000000) (disch := omega) only [go_sem, seval, hd, cb, ruleD, configD, spotD, x7, look_dropL]; (repeat (first | refine ⟨by omega, ?_⟩ | refine ⟨keyTy_cube, ?_⟩)))))
      refine awp_ownf 603 (rowC (isort onesK L)) rfl sl ?_
      (repeat (first | refine q0 ?_ | refine z6 rfl ?_ | refine x6 rfl ?_ | refine j5 ?_ | (refine x4 fun K hK => ?_) | (refine j4 (by kernel_rfl) (by kernel_rfl) fun K hK => ?_) | ((first | refine z5 ?_ | refine x5 ?_ | ((first | refine j0 (hK _ ?_) | refine z4 (hK _ _ (z3 (by kernel_rfl)) ?_)); clear hK K)); (first | show AWP _ _ _ _ _ | ((try simp only [q6]); first | show loopQ _ _ _ _ _ _ | show cutQ _ _ _ _ | show AWP _ _ _ _ _))) | ((first | refine j6 [8] rfl ?_ | refine q7 [8] rfl ?_); simp (maxSteps := 2000000) (disch := omega) only [go_sem, seval, hd, cb, ruleD, configD, spotD, x7, look_dropL]; (repeat (first | refine ⟨by omega, ?_⟩ | refine ⟨keyTy_cube, ?_⟩)))))
      refine walkS_weak (Weak.freeze _ 90 603 L.length 4 L.length 27 (rowC (isort onesK L)) rfl rfl) ?_
      simp (maxSteps := 2000000) (disch := omega) only [go_sem, seval, hd, cb, ruleD, configD, spotD, x7, look_dropL]
      (repeat (first | refine q0 ?_ | refine z6 rfl ?_ | refine x6 rfl ?_ | refine j5 ?_ | (refine x4 fun K hK => ?_) | (refine j4 (by kernel_rfl) (by kernel_rfl) fun K hK => ?_) | ((first | refine z5 ?_ | refine x5 ?_ | ((first | refine j0 (hK _ ?_) | refine z4 (hK _ _ (z3 (by kernel_rfl)) ?_)); clear hK K)); (first | show AWP _ _ _ _ _ | ((try simp only [q6]); first | show loopQ _ _ _ _ _ _ | show cutQ _ _ _ _ | show AWP _ _ _ _ _))) | ((first | refine j8 rfl rfl rfl ?_ | refine q9 rfl rfl rfl ?_); simp (maxSteps := 2000000) (disch := omega) only [go_sem, seval, hd, cb, ruleD, configD, spotD, x7, look_dropL]; (first | refine ⟨_, cp, ?_⟩)) | ((first | refine j6 [8] rfl ?_ | refine q7 [8] rfl ?_); simp (maxSteps := 2000000) (disch := omega) only [go_sem, seval, hd, cb, ruleD, configD, spotD, x7, look_dropL]; (repeat (first | refine ⟨by omega, ?_⟩ | refine ⟨keyTy_cube, ?_⟩)))))
      refine j7 ⟨_, ?_, rfl⟩; rw [Try.results28]; simp (disch := omega) only [ResVars, ResVar, ptrLoc, go_sem, seval, hd, cb, ruleD, configD, spotD, x7, look_dropL]
end Go.Proofs.Ytbamjcnhmmgnlaa
set_option linter.unusedSimpArgs false
set_option linter.unusedVariables false
namespace Go.Proofs.Ytbamjcnhmmgnlaa
open Go.Proofs.Ytbamjcnhmmgnlaa.AL
def stB1 (x : BitVec 128) (i j : Nat) : Bool := if 88 ≤ j ∧ j < i then false else x.getLsbD j
def stB2 (x : BitVec 128) (T i j : Nat) : Bool := if 88 ≤ j then decide (j < i) && T.testBit (j - 88) else x.getLsbD j
def stB3 (x : BitVec 128) (T V i j : Nat) : Bool := if j < 88 then x.getLsbD j else if j < 112 then T.testBit (j - 88) else decide (j < i) && V.testBit (j - 112)
def stampR (x : BitVec 128) (T V : Nat) : BitVec 128 := ofBits (stB3 x T V 120)
theorem tmod_bit (m : Nat) : (((m : Nat) : Int).tmod 2 == 1) = m.testBit 0 := by
  rw [Nat.testBit_zero, Int.tmod_eq_emod_of_nonneg (by omega), Bool.eq_iff_iff, beq_iff_eq, decide_eq_true_eq]
  omega
theorem tdiv_two (m : Nat) : ((m : Nat) : Int).tdiv 2 = ((m / 2 : Nat) : Int) := by
  rw [Int.tdiv_eq_ediv_of_nonneg (by omega)]; omega
theorem testBit_div (N k : Nat) : (N / 2 ^ k).testBit 0 = N.testBit k := by
  rw [← Nat.shiftRight_eq_div_pow, Nat.testBit_shiftRight, Nat.add_zero]
theorem div_next (N k : Nat) : N / 2 ^ k / 2 = N / 2 ^ (k + 1) := by
  rw [Nat.div_div_eq_div_mul, Nat.pow_succ]
def stI1 (x : BitVec 128) (T V : Nat) (s : {i : Nat // 88 ≤ i ∧ i ≤ 128}) : ASt :=
  ⟨[(10, .p (.d (.v (.int .i64 (s.val : Int))))), (9, .p (.d (.v (.int .i64 (V : Int))))), (8, .p (.d (.v (.int .i64 (T : Int))))), (7, .loc 7 0), (6, .loc 6 0)],
   [(7, .arr 99 128 fun j => .v (.bool (stB1 x s.val j))), (6, .cells 25 [.p (.d (.v (.int .u64 0))), .p (.d (.v (.int .u64 0)))])]⟩
def stI2 (x : BitVec 128) (T V : Nat) (s : {s : Nat × Nat // 88 ≤ s.1 ∧ s.1 ≤ 112 ∧ s.2 = T / 2 ^ (s.1 - 88)}) : ASt :=
  ⟨[(11, .p (.d (.v (.int .i64 (s.val.1 : Int))))), (9, .p (.d (.v (.int .i64 (V : Int))))), (8, .p (.d (.v (.int .i64 (s.val.2 : Int))))), (7, .loc 7 0), (6, .loc 6 0)],
   [(7, .arr 99 128 fun j => .v (.bool (stB2 x T s.val.1 j))), (6, .cells 25 [.p (.d (.v (.int .u64 0))), .p (.d (.v (.int .u64 0)))])]⟩
def stI3 (x : BitVec 128) (T V : Nat) (s : {s : Nat × Nat // 112 ≤ s.1 ∧ s.1 ≤ 120 ∧ s.2 = V / 2 ^ (s.1 - 112)}) : ASt :=
  ⟨[(12, .p (.d (.v (.int .i64 (s.val.1 : Int))))), (9, .p (.d (.v (.int .i64 (s.val.2 : Int))))), (7, .loc 7 0), (6, .loc 6 0)],
   [(7, .arr 99 128 fun j => .v (.bool (stB3 x T V s.val.1 j))), (6, .cells 25 [.p (.d (.v (.int .u64 0))), .p (.d (.v (.int .u64 0)))])]⟩
set_option maxRecDepth 100000 in
set_option maxHeartbeats 2000000 in
theorem StampR_c (x : BitVec 128) (T V : Nat) (ht : T < 1000000) (hv : V < 1000000) : ACalls Try.prog 65 [.agg (hd x), .d (.v (.int .i64 (T : Int))), .d (.v (.int .i64 (V : Int)))] (· = [.agg (hd (stampR x (T + 1) V))]) := by
  have c1 := Bits_c x
  have c2 := Head_c (stB3 x (T + 1) V 120)
  rw [show ofBits (stB3 x (T + 1) V 120) = stampR x (T + 1) V from rfl] at c2
  simp only [hd] at c1 c2
  have e1 : ((T : Int) + 1) = ((T + 1 : Nat) : Int) := by omega
  refine z9 Try.func65 rfl (by decide +kernel) (by rw [Try.ntmps65]; simp) ?_; rw [Try.ntmps65]; simp only [frOf]
  (repeat (first | refine q0 ?_ | refine z6 rfl ?_ | refine x6 rfl ?_ | refine j5 ?_ | (refine x4 fun K hK => ?_) | (refine j4 (by kernel_rfl) (by kernel_rfl) fun K hK => ?_) | ((first | refine z5 ?_ | refine x5 ?_ | ((first | refine j0 (hK _ ?_) | refine z4 (hK _ _ (z3 (by kernel_rfl)) ?_)); clear hK K)); (first | show AWP _ _ _ _ _ | ((try simp only [q6]); first | show loopQ _ _ _ _ _ _ | show cutQ _ _ _ _ | show AWP _ _ _ _ _))) | ((first | refine j8 rfl rfl rfl ?_ | refine q9 rfl rfl rfl ?_); simp (maxSteps := 2000000) (disch := omega) only [go_sem, seval, hd, e1]; (first | refine ⟨_, c1, ?_⟩)) | ((first | refine j6 [6, 7] rfl ?_ | refine q7 [6, 7] rfl ?_); simp (maxSteps := 2000000) (disch := omega) only [go_sem, seval, hd, e1]; (repeat (first | refine ⟨by omega, ?_⟩ | refine ⟨True.intro, ?_⟩)))))
  generalize hN : T + 1 = N at c2
  have hNb : N ≤ 1000000 := by omega
  refine awp_loop (stI1 x N V) (fun s => 128 - s.val) ⟨88, by omega, by omega⟩ ?_ (fun s => ?_)
  · unfold stI1
    refine Weak.list ?_ ?_; (all_goals simp (disch := omega) only [AllF, AllL, j9, q10, x9, exists_eq_left', Option.some.injEq, go_sem, seval, hd]); (all_goals (repeat' (with_reducible apply And.intro))); (all_goals try (first | exact z7 rfl | (refine z10 ?_; omega) | (refine z7 ?_; simp; done)))
    refine lle_arr (fun j hj => ?_)
    unfold stB1
    rw [if_neg (by omega)]
  obtain ⟨i, h1, h2⟩ := s
  unfold stI1
  simp only [] at h1 h2 ⊢
  by_cases h : i < 128
  · (repeat (first | refine q0 ?_ | refine z6 rfl ?_ | refine x6 rfl ?_ | refine j5 ?_ | (refine x4 fun K hK => ?_) | (refine j4 (by kernel_rfl) (by kernel_rfl) fun K hK => ?_) | ((first | refine z5 ?_ | refine x5 ?_ | ((first | refine j0 (hK _ ?_) | refine z4 (hK _ _ (z3 (by kernel_rfl)) ?_)); clear hK K)); (first | show AWP _ _ _ _ _ | ((try simp only [q6]); first | show loopQ _ _ _ _ _ _ | show cutQ _ _ _ _ | show AWP _ _ _ _ _))) | ((first | refine j6 [6, 7] rfl ?_ | refine q7 [6, 7] rfl ?_); simp (maxSteps := 2000000) (disch := omega) only [go_sem, seval, hd]; (repeat (first | refine ⟨by omega, ?_⟩ | refine ⟨True.intro, ?_⟩)))))
    refine ⟨⟨i + 1, by omega, by omega⟩, by simp only []; omega, ?_⟩
    refine Weak.list ?_ ?_; (all_goals simp (disch := omega) only [AllF, AllL, j9, q10, x9, exists_eq_left', Option.some.injEq, go_sem, seval, hd]); (all_goals (repeat' (with_reducible apply And.intro))); (all_goals try (first | exact z7 rfl | (refine z10 ?_; omega) | (refine z7 ?_; simp; done)))
    refine lle_arr (fun j hj => ?_)
    unfold stB1
    by_cases hj : j = i
    · subst hj; rw [if_pos rfl, if_pos (by omega)]
    · rw [if_neg hj]
      by_cases hk : 88 ≤ j ∧ j < i
      · rw [if_pos hk, if_pos (by omega)]
      · rw [if_neg hk, if_neg (by omega)]
  have : i = 128 := by omega
  subst this
  (repeat (first | refine q0 ?_ | refine z6 rfl ?_ | refine x6 rfl ?_ | refine j5 ?_ | (refine x4 fun K hK => ?_) | (refine j4 (by kernel_rfl) (by kernel_rfl) fun K hK => ?_) | ((first | refine z5 ?_ | refine x5 ?_ | ((first | refine j0 (hK _ ?_) | refine z4 (hK _ _ (z3 (by kernel_rfl)) ?_)); clear hK K)); (first | show AWP _ _ _ _ _ | ((try simp only [q6]); first | show loopQ _ _ _ _ _ _ | show cutQ _ _ _ _ | show AWP _ _ _ _ _))) | ((first | refine j6 [6, 7] rfl ?_ | refine q7 [6, 7] rfl ?_); simp (maxSteps := 2000000) (disch := omega) only [go_sem, seval, hd]; (repeat (first | refine ⟨by omega, ?_⟩ | refine ⟨True.intro, ?_⟩)))))
  refine awp_loop (stI2 x N V) (fun s => 112 - s.val.1) ⟨(88, N), by simp⟩ ?_ (fun s => ?_)
  · unfold stI2
    refine Weak.list ?_ ?_; (all_goals simp (disch := omega) only [AllF, AllL, j9, q10, x9, exists_eq_left', Option.some.injEq, go_sem, seval, hd]); (all_goals (repeat' (with_reducible apply And.intro))); (all_goals try (first | exact z7 rfl | (refine z10 ?_; omega) | (refine z7 ?_; simp; done)))
    refine lle_arr (fun j hj => ?_)
    unfold stB1 stB2
    by_cases hk : 88 ≤ j
    · rw [if_pos (by omega), if_pos hk, decide_eq_false (by omega)]; rfl
    · rw [if_neg (by omega), if_neg hk]
  obtain ⟨⟨i, m⟩, h1, h2, h3⟩ := s
  unfold stI2
  simp only [] at h1 h2 h3 ⊢
  have hm : m ≤ N := by rw [h3]; exact Nat.div_le_self _ _
  by_cases h : i < 112
  · have r1 := tmod_bit m
    have r2 := tdiv_two m
    have r3 : m / 2 = N / 2 ^ (i + 1 - 88) := by rw [h3, div_next]; congr 2; omega
    rw [h3, testBit_div, ← h3] at r1
    (repeat (first | refine q0 ?_ | refine z6 rfl ?_ | refine x6 rfl ?_ | refine j5 ?_ | (refine x4 fun K hK => ?_) | (refine j4 (by kernel_rfl) (by kernel_rfl) fun K hK => ?_) | ((first | refine z5 ?_ | refine x5 ?_ | ((first | refine j0 (hK _ ?_) | refine z4 (hK _ _ (z3 (by kernel_rfl)) ?_)); clear hK K)); (first | show AWP _ _ _ _ _ | ((try simp only [q6]); first | show loopQ _ _ _ _ _ _ | show cutQ _ _ _ _ | show AWP _ _ _ _ _))) | ((first | refine j6 [6, 7] rfl ?_ | refine q7 [6, 7] rfl ?_); simp (maxSteps := 2000000) (disch := omega) only [go_sem, seval, hd, r1, r2]; (repeat (first | refine ⟨by omega, ?_⟩ | refine ⟨True.intro, ?_⟩)))))
    refine ⟨⟨(i + 1, m / 2), by omega, by simp only []; omega, r3⟩, by simp only []; omega, ?_⟩
    refine Weak.list ?_ ?_; (all_goals simp (disch := omega) only [AllF, AllL, j9, q10, x9, exists_eq_left', Option.some.injEq, go_sem, seval, hd]); (all_goals (repeat' (with_reducible apply And.intro))); (all_goals try (first | exact z7 rfl | (refine z10 ?_; omega) | (refine z7 ?_; simp; done)))
    refine lle_arr (fun j hj => ?_)
    unfold stB2
    by_cases hj : j = i
    · subst hj; rw [if_pos rfl, if_pos (by omega), decide_eq_true (by omega)]; simp
    · rw [if_neg hj]
      by_cases hk : 88 ≤ j
      · rw [if_pos hk, if_pos hk]
        by_cases hl : j < i
        · rw [decide_eq_true hl, decide_eq_true (by omega)]
        · rw [decide_eq_false hl, decide_eq_false (by omega)]
      · rw [if_neg hk, if_neg hk]
  have : i = 112 := by omega
  subst this
  (repeat (first | refine q0 ?_ | refine z6 rfl ?_ | refine x6 rfl ?_ | refine j5 ?_ | (refine x4 fun K hK => ?_) | (refine j4 (by kernel_rfl) (by kernel_rfl) fun K hK => ?_) | ((first | refine z5 ?_ | refine x5 ?_ | ((first | refine j0 (hK _ ?_) | refine z4 (hK _ _ (z3 (by kernel_rfl)) ?_)); clear hK K)); (first | show AWP _ _ _ _ _ | ((try simp only [q6]); first | show loopQ _ _ _ _ _ _ | show cutQ _ _ _ _ | show AWP _ _ _ _ _))) | ((first | refine j6 [6, 7] rfl ?_ | refine q7 [6, 7] rfl ?_); simp (maxSteps := 2000000) (disch := omega) only [go_sem, seval, hd]; (repeat (first | refine ⟨by omega, ?_⟩ | refine ⟨True.intro, ?_⟩)))))
  refine awp_loop (stI3 x N V) (fun s => 120 - s.val.1) ⟨(112, V), by simp⟩ ?_ (fun s => ?_)
  · unfold stI3
    refine Weak.list ?_ ?_; (all_goals simp (disch := omega) only [AllF, AllL, j9, q10, x9, exists_eq_left', Option.some.injEq, go_sem, seval, hd]); (all_goals (repeat' (with_reducible apply And.intro))); (all_goals try (first | exact z7 rfl | (refine z10 ?_; omega) | (refine z7 ?_; simp; done)))
    refine lle_arr (fun j hj => ?_)
    unfold stB2 stB3
    by_cases hk : j < 88
    · rw [if_neg (by omega), if_pos hk]
    · rw [if_pos (by omega), if_neg hk]
      by_cases hl : j < 112
      · rw [if_pos hl, decide_eq_true hl]; simp
      · rw [if_neg hl, decide_eq_false hl]; simp
  obtain ⟨⟨i, m⟩, h1, h2, h3⟩ := s
  unfold stI3
  simp only [] at h1 h2 h3 ⊢
  have hm : m ≤ V := by rw [h3]; exact Nat.div_le_self _ _
  by_cases h : i < 120
  · have r1 := tmod_bit m
    have r2 := tdiv_two m
    have r3 : m / 2 = V / 2 ^ (i + 1 - 112) := by rw [h3, div_next]; congr 2; omega
    rw [h3, testBit_div, ← h3] at r1
    (repeat (first | refine q0 ?_ | refine z6 rfl ?_ | refine x6 rfl ?_ | refine j5 ?_ | (refine x4 fun K hK => ?_) | (refine j4 (by kernel_rfl) (by kernel_rfl) fun K hK => ?_) | ((first | refine z5 ?_ | refine x5 ?_ | ((first | refine j0 (hK _ ?_) | refine z4 (hK _ _ (z3 (by kernel_rfl)) ?_)); clear hK K)); (first | show AWP _ _ _ _ _ | ((try simp only [q6]); first | show loopQ _ _ _ _ _ _ | show cutQ _ _ _ _ | show AWP _ _ _ _ _))) | ((first | refine j6 [6, 7] rfl ?_ | refine q7 [6, 7] rfl ?_); simp (maxSteps := 2000000) (disch := omega) only [go_sem, seval, hd, r1, r2]; (repeat (first | refine ⟨by omega, ?_⟩ | refine ⟨True.intro, ?_⟩)))))
    refine ⟨⟨(i + 1, m / 2), by omega, by simp only []; omega, r3⟩, by simp only []; omega, ?_⟩
    refine Weak.list ?_ ?_; (all_goals simp (disch := omega) only [AllF, AllL, j9, q10, x9, exists_eq_left', Option.some.injEq, go_sem, seval, hd]); (all_goals (repeat' (with_reducible apply And.intro))); (all_goals try (first | exact z7 rfl | (refine z10 ?_; omega) | (refine z7 ?_; simp; done)))
    refine lle_arr (fun j hj => ?_)
    unfold stB3
    by_cases hj : j = i
    · subst hj; rw [if_pos rfl, if_neg (by omega), if_neg (by omega), decide_eq_true (by omega)]; simp
    · rw [if_neg hj]
      by_cases hk : j < 88
      · rw [if_pos hk, if_pos hk]
      · rw [if_neg hk, if_neg hk]
        by_cases hl : j < 112
        · rw [if_pos hl, if_pos hl]
        · rw [if_neg hl, if_neg hl]
          by_cases hl : j < i
          · rw [decide_eq_true hl, decide_eq_true (by omega)]
          · rw [decide_eq_false hl, decide_eq_false (by omega)]
  have : i = 120 := by omega
  subst this
  (repeat (first | refine q0 ?_ | refine z6 rfl ?_ | refine x6 rfl ?_ | refine j5 ?_ | (refine x4 fun K hK => ?_) | (refine j4 (by kernel_rfl) (by kernel_rfl) fun K hK => ?_) | ((first | refine z5 ?_ | refine x5 ?_ | ((first | refine j0 (hK _ ?_) | refine z4 (hK _ _ (z3 (by kernel_rfl)) ?_)); clear hK K)); (first | show AWP _ _ _ _ _ | ((try simp only [q6]); first | show loopQ _ _ _ _ _ _ | show cutQ _ _ _ _ | show AWP _ _ _ _ _))) | ((first | refine j8 rfl rfl rfl ?_ | refine q9 rfl rfl rfl ?_); simp (maxSteps := 2000000) (disch := omega) only [go_sem, seval, hd]; (first | refine ⟨_, c2, ?_⟩)) | ((first | refine j6 [6, 7] rfl ?_ | refine q7 [6, 7] rfl ?_); simp (maxSteps := 2000000) (disch := omega) only [go_sem, seval, hd]; (repeat (first | refine ⟨by omega, ?_⟩ | refine ⟨True.intro, ?_⟩)))))
  refine j7 ⟨_, ?_, rfl⟩; rw [Try.results65]; simp (disch := omega) only [ResVars, ResVar, ptrLoc, go_sem, seval, hd]
theorem wordOf_get (n : Nat) (i : Nat) : (wordOf (n : Int)).getLsbD i = (decide (i < 64) && n.testBit i) := by
  unfold wordOf
  rw [BitVec.getLsbD_ofNat, Int.toNat_natCast]
theorem testBit_big {n i b : Nat} (h : n < 2 ^ b) (hi : b ≤ i) : n.testBit i = false :=
  Nat.testBit_lt_two_pow (Nat.lt_of_lt_of_le h (Nat.pow_le_pow_right (by decide) hi))
theorem putB_bit (x : BitVec 128) (a b : Nat) (v : BitVec 64) (j : Nat) (hj : j < 128) :
    (putB x a b v).getLsbD j = ((x.getLsbD j && !(decide (a ≤ j) && decide (j < a + b))) || (decide (a ≤ j) && v.getLsbD (j - a))) := by
  unfold putB
  rw [BitVec.getLsbD_or, BitVec.getLsbD_and, BitVec.getLsbD_not, BitVec.getLsbD_shiftLeft, BitVec.getLsbD_shiftLeft, ones_bit _ _ (by omega), BitVec.getLsbD_setWidth]
  simp only [hj, decide_true, Bool.true_and, show j - a < 128 by omega]
  by_cases h : j < a
  · simp [h, show ¬ a ≤ j by omega]
  · simp only [h, decide_false, Bool.not_false, Bool.true_and, show a ≤ j by omega, decide_true]
    by_cases hb : j - a < b
    · simp [hb, show j < a + b by omega]
    · simp [hb, show ¬ j < a + b by omega]
theorem stamp_eq (h : BitVec 128) (tn v : Nat) (ht : tn + 1 < 2 ^ 24) (hv : v < 2 ^ 8) : setH h (stampV (tn : Int) (v : Int)) = stampR h (tn + 1) v := by
  apply BitVec.eq_of_getLsbD_eq
  intro j hj
  unfold stampR
  rw [ofBits_bit _ _ hj]
  unfold setH stampV mkC stB3
  simp only []
  have hc : (ones 40 <<< 88).getLsbD j = decide (88 ≤ j) := by
    rw [BitVec.getLsbD_shiftLeft, ones_bit _ _ (by omega), decide_eq_true hj, Bool.true_and]
    by_cases hk : j < 88
    · simp [hk, show ¬ 88 ≤ j by omega]
    · simp [hk, show 88 ≤ j by omega, show j - 88 < 40 by omega]
  rw [BitVec.getLsbD_or, BitVec.getLsbD_and, BitVec.getLsbD_not, BitVec.getLsbD_and, BitVec.getLsbD_and, hc, putB_bit _ _ _ _ _ hj, putB_bit _ _ _ _ _ hj]
  rw [show ((tn : Int) + 1) = ((tn + 1 : Nat) : Int) by omega, wordOf_get, wordOf_get]
  by_cases h1 : j < 88
  · simp [h1, show ¬ 88 ≤ j by omega, show ¬ 112 ≤ j by omega, hj]
  · by_cases h2 : j < 112
    · simp [h1, h2, show 88 ≤ j by omega, show ¬ 112 ≤ j by omega, hj, show j - 88 < 64 by omega]
    · by_cases h3 : j < 120
      · simp [h1, h2, h3, show 88 ≤ j by omega, show 112 ≤ j by omega, hj, show j - 112 < 64 by omega]
      · have e1 : (tn + 1).testBit (j - 88) = false := testBit_big ht (by omega)
        have e2 : v.testBit (j - 112) = false := testBit_big hv (by omega)
        simp [h1, h2, h3, show 88 ≤ j by omega, show 112 ≤ j by omega, hj, e1, e2]
end Go.Proofs.Ytbamjcnhmmgnlaa
set_option linter.unusedSimpArgs false
set_option linter.unusedVariables false
namespace Go.Proofs.Ytbamjcnhmmgnlaa
open Go Go.Proofs.Ytbamjcnhmmgnlaa.AL
def addRI (L : List Cube) (k : Cube) (B : Bool) (s : {i : Nat // i ≤ L.length ∧ (L.drop i).contains k = B}) : ASt :=
  ⟨[(5, .p (.d (.v (.int .i64 (s.val : Int))))), (3, .p (.d (.bx (cb k)))), (0, .p (.d (.sl 4 L.length (rowC L))))], []⟩
theorem row_two (L : List Cube) (k : Cube) (i : Nat) (hi : i < L.length + 1) : catF L.length (catF 0 (fun _ => []) (rowC L)) (fun i => [cb k].getD i []) i = rowC (L ++ [k]) i := by
  rw [← rowC_put L k i hi]
  unfold catF
  split
  · rename_i h
    simp
  · rfl
set_option maxRecDepth 100000 in
set_option maxHeartbeats 1000000 in
theorem addR_c (L : List Cube) (k : Cube) (hl : L.length ≤ 1073741824) : ACalls Try.prog 30 [.d (.sl 4 L.length (rowC L)), .agg (cb k)] (· = [.d (.sl 4 (addC L k).length (rowC (addC L k)))]) := by
  unfold addC
  obtain ⟨B, hB⟩ : ∃ B, L.contains k = B := ⟨_, rfl⟩
  rw [hB]
  refine z9 Try.func30 rfl (by decide +kernel) (by rw [Try.ntmps30]; simp) ?_; rw [Try.ntmps30]; simp only [frOf]
  (repeat (first | refine q0 ?_ | refine z6 rfl ?_ | refine x6 rfl ?_ | refine j5 ?_ | (refine x4 fun K hK => ?_) | (refine j4 (by kernel_rfl) (by kernel_rfl) fun K hK => ?_) | ((first | refine z5 ?_ | refine x5 ?_ | ((first | refine j0 (hK _ ?_) | refine z4 (hK _ _ (z3 (by kernel_rfl)) ?_)); clear hK K)); (first | show AWP _ _ _ _ _ | ((try simp only [q6]); first | show loopQ _ _ _ _ _ _ | show cutQ _ _ _ _ | show AWP _ _ _ _ _))) | ((first | refine j6 [19] rfl ?_ | refine q7 [19] rfl ?_); simp (maxSteps := 2000000) (disch := omega) only [go_sem, seval, hd, cb, ruleD, configD, spotD, x7]; (repeat (first | refine ⟨by omega, ?_⟩ | refine ⟨True.intro, ?_⟩)))))
  refine awp_loop (addRI L k B) (fun s => L.length - s.val) ⟨0, by omega, by rw [List.drop_zero]; exact hB⟩ ?_ (fun s => ?_)
  · unfold addRI
    refine Weak.list ?_ ?_; (all_goals simp (disch := omega) only [AllF, AllL, j9, q10, x9, exists_eq_left', Option.some.injEq, go_sem, seval, hd, cb, ruleD, configD, spotD, x7]); (all_goals (repeat' (with_reducible apply And.intro))); (all_goals try (first | exact z7 rfl | (refine z10 ?_; omega) | (refine z7 ?_; simp; done)))
  obtain ⟨i, hi, he⟩ := s
  unfold addRI
  by_cases hn : i < L.length
  · have r1 := rowC_at L i
    rw [drop_getD L i ⟨0, 0⟩ hn, List.contains_cons] at he
    generalize L.getD i ⟨0, 0⟩ = x at r1 he
    have q := eqI_cb x k
    cases hx : (x == k)
    · rw [hx] at q
      have hx2 : (k == x) = false := by
        rw [beq_eq_false_iff_ne] at hx ⊢; exact fun e => hx e.symm
      rw [hx2, Bool.false_or] at he
      (repeat (first | refine q0 ?_ | refine z6 rfl ?_ | refine x6 rfl ?_ | refine j5 ?_ | (refine x4 fun K hK => ?_) | (refine j4 (by kernel_rfl) (by kernel_rfl) fun K hK => ?_) | ((first | refine z5 ?_ | refine x5 ?_ | ((first | refine j0 (hK _ ?_) | refine z4 (hK _ _ (z3 (by kernel_rfl)) ?_)); clear hK K)); (first | show AWP _ _ _ _ _ | ((try simp only [q6]); first | show loopQ _ _ _ _ _ _ | show cutQ _ _ _ _ | show AWP _ _ _ _ _))) | ((first | refine j6 [19] rfl ?_ | refine q7 [19] rfl ?_); simp (maxSteps := 2000000) (disch := omega) only [go_sem, seval, hd, cb, ruleD, configD, spotD, x7, r1, q]; (repeat (first | refine ⟨by omega, ?_⟩ | refine ⟨True.intro, ?_⟩)))))
      refine ⟨⟨i + 1, by omega, he⟩, by simp only []; omega, ?_⟩
      refine Weak.list ?_ ?_; (all_goals simp (disch := omega) only [AllF, AllL, j9, q10, x9, exists_eq_left', Option.some.injEq, go_sem, seval, hd, cb, ruleD, configD, spotD, x7, r1, q]); (all_goals (repeat' (with_reducible apply And.intro))); (all_goals try (first | exact z7 rfl | (refine z10 ?_; omega) | (refine z7 ?_; simp; done)))
    · rw [hx] at q
      have hx2 : (k == x) = true := by
        rw [beq_iff_eq] at hx ⊢; exact hx.symm
      rw [hx2, Bool.true_or] at he
      subst he
      rw [if_pos rfl]
      (repeat (first | refine q0 ?_ | refine z6 rfl ?_ | refine x6 rfl ?_ | refine j5 ?_ | (refine x4 fun K hK => ?_) | (refine j4 (by kernel_rfl) (by kernel_rfl) fun K hK => ?_) | ((first | refine z5 ?_ | refine x5 ?_ | ((first | refine j0 (hK _ ?_) | refine z4 (hK _ _ (z3 (by kernel_rfl)) ?_)); clear hK K)); (first | show AWP _ _ _ _ _ | ((try simp only [q6]); first | show loopQ _ _ _ _ _ _ | show cutQ _ _ _ _ | show AWP _ _ _ _ _))) | ((first | refine j6 [19] rfl ?_ | refine q7 [19] rfl ?_); simp (maxSteps := 2000000) (disch := omega) only [go_sem, seval, hd, cb, ruleD, configD, spotD, x7, r1, q]; (repeat (first | refine ⟨by omega, ?_⟩ | refine ⟨True.intro, ?_⟩)))))
      refine j7 ⟨_, ?_, rfl⟩; rw [Try.results30]; simp (disch := omega) only [ResVars, ResVar, ptrLoc, go_sem, seval, hd, cb, ruleD, configD, spotD, x7, r1, q]
  · have : i = L.length := by omega
    subst this
    rw [List.drop_length, List.contains_nil] at he
    subst he
    rw [if_neg (by decide)]
    (repeat (first | refine q0 ?_ | refine z6 rfl ?_ | refine x6 rfl ?_ | refine j5 ?_ | (refine x4 fun K hK => ?_) | (refine j4 (by kernel_rfl) (by kernel_rfl) fun K hK => ?_) | ((first | refine z5 ?_ | refine x5 ?_ | ((first | refine j0 (hK _ ?_) | refine z4 (hK _ _ (z3 (by kernel_rfl)) ?_)); clear hK K)); (first | show AWP _ _ _ _ _ | ((try simp only [q6]); first | show loopQ _ _ _ _ _ _ | show cutQ _ _ _ _ | show AWP _ _ _ _ _))) | ((first | refine j6 [19] rfl ?_ | refine q7 [19] rfl ?_); simp (maxSteps := 2000000) (disch := omega) only [go_sem, seval, hd, cb, ruleD, configD, spotD, x7]; (repeat (first | refine ⟨by omega, ?_⟩ | refine ⟨True.intro, ?_⟩)))))
    refine awp_slot 4 _ (.p (.d (.sl 4 (L ++ [k]).length (rowC (L ++ [k]))))) rfl (le_gr (by simp) (fun i hi => row_two L k i hi)) ?_
    refine j7 ⟨_, ?_, rfl⟩; rw [Try.results30]; simp (disch := omega) only [ResVars, ResVar, ptrLoc, go_sem, seval, hd, cb, ruleD, configD, spotD, x7]
def rulesA (b : List (List (List Rule))) : List Rule := (b.map List.flatten).flatten
theorem rulesA_len (b : List (List (List Rule))) : (rulesA b).length = cnt3 b := by
  induction b with
  | nil => rfl
  | cons t b ih =>
    have e : rulesA (t :: b) = t.flatten ++ rulesA b := by simp [rulesA]
    have e2 : cnt3 (t :: b) = cnt2 t + cnt3 b := by simp [cnt3]
    rw [e, e2, List.length_append, ih]
    simp [cnt2, List.length_flatten]
theorem fold3_flat (f : List Cube → Rule → List Cube) : ∀ (b : List (List (List Rule))) (L : List Cube), fold3 f b L = (rulesA b).foldl f L
  | [], L => rfl
  | t :: b, L => by
    have e : rulesA (t :: b) = t.flatten ++ rulesA b := by simp [rulesA]
    have h2 : ∀ (t : List (List Rule)) (L : List Cube), fold2 f t L = t.flatten.foldl f L := by
      intro t
      induction t with
      | nil => intro L; rfl
      | cons l t ih => intro L; rw [List.flatten_cons, List.foldl_append, ← ih]; rfl
    rw [e, List.foldl_append, ← h2, ← fold3_flat f b]; rfl
def ruleRI (b : List (List (List Rule))) (c : Config) (R : List Rule) (s : {s : Nat × List Rule × Nat // s.1 ≤ b.length ∧ s.2.1 ++ rulesA (b.drop s.1) = R}) : ASt :=
  ⟨[(4, .p (.d (.v (.int .i64 (s.val.1 : Int))))), (3, .gr 6 s.val.2.2 12 s.val.2.1.length (rowR s.val.2.1)), (1, .p (.d (.bx (configD c))))], [(6, .grow 75 12 s.val.2.1.length s.val.2.2)]⟩
def ruleRJ (b : List (List (List Rule))) (c : Config) (R : List Rule) (i : Nat) (t : List (List Rule)) (s : {s : Nat × List Rule × Nat // s.1 ≤ t.length ∧ s.2.1 ++ ((t.drop s.1).flatten ++ rulesA (b.drop (i + 1))) = R}) : ASt :=
  ⟨[(5, .p (.d (.v (.int .i64 (s.val.1 : Int))))), (4, .p (.d (.v (.int .i64 (i : Int))))), (3, .gr 6 s.val.2.2 12 s.val.2.1.length (rowR s.val.2.1)), (1, .p (.d (.bx (configD c))))], [(6, .grow 75 12 s.val.2.1.length s.val.2.2)]⟩
theorem rowR_app (a b : List Rule) (i : Nat) : catF a.length (rowR a) (rowR b) i = rowR (a ++ b) i := by
  unfold catF rowR
  split
  · rename_i h
    rw [List.getD_eq_getElem?_getD, List.getD_eq_getElem?_getD, List.getElem?_append_left h]
  · rename_i h
    rw [List.getD_eq_getElem?_getD, List.getD_eq_getElem?_getD, List.getElem?_append_right (by omega)]
set_option maxRecDepth 100000 in
set_option maxHeartbeats 2000000 in
theorem rulesR_c (c : Config) (hc : c.small) (hl : cnt3 c.tb ≤ 100000) : ACalls Try.prog 29 [.agg (configD c)] (· = [.d (.sl 12 (rulesA c.tb).length (rowR (rulesA c.tb)))]) := by
  have hb := hc.tb
  rw [← rulesA_len] at hl
  obtain ⟨R, hR⟩ : ∃ R, rulesA c.tb = R := ⟨_, rfl⟩
  rw [hR] at hl ⊢
  refine z9 Try.func29 rfl (by decide +kernel) (by rw [Try.ntmps29]; simp) ?_; rw [Try.ntmps29]; simp only [frOf]
  (repeat (first | refine q0 ?_ | refine z6 rfl ?_ | refine x6 rfl ?_ | refine j5 ?_ | (refine x4 fun K hK => ?_) | (refine j4 (by kernel_rfl) (by kernel_rfl) fun K hK => ?_) | ((first | refine z5 ?_ | refine x5 ?_ | ((first | refine j0 (hK _ ?_) | refine z4 (hK _ _ (z3 (by kernel_rfl)) ?_)); clear hK K)); (first | show AWP _ _ _ _ _ | ((try simp only [q6]); first | show loopQ _ _ _ _ _ _ | show cutQ _ _ _ _ | show AWP _ _ _ _ _))) | ((first | refine j6 [6] rfl ?_ | refine q7 [6] rfl ?_); simp (maxSteps := 2000000) (disch := omega) only [go_sem, seval, hd, cb, ruleD, configD, spotD, x7]; (repeat (first | refine ⟨by omega, ?_⟩ | refine ⟨True.intro, ?_⟩)))))
  refine awp_loop (ruleRI c.tb c R) (fun s => c.tb.length - s.val.1) ⟨(0, [], 0), by omega, by rw [List.drop_zero, List.nil_append]; exact hR⟩ ?_ (fun s => ?_)
  · unfold ruleRI
    refine Weak.list ?_ ?_; (all_goals simp (disch := omega) only [AllF, AllL, j9, q10, x9, exists_eq_left', Option.some.injEq, go_sem, seval, hd, cb, ruleD, configD, spotD, x7]); (all_goals (repeat' (with_reducible apply And.intro))); (all_goals try (first | exact z7 rfl | (refine z10 ?_; omega) | (refine z7 ?_; simp; done)))
    exact le_grgr rfl rfl (fun i hi => by simp at hi)
  obtain ⟨⟨i, out, g⟩, hi, h1⟩ := s
  simp only [] at hi h1
  unfold ruleRI
  simp only []
  by_cases hn : i < c.tb.length
  · have r1 := rowTT_at c.tb i
    have hsm := hc.at i
    have e1 : rulesA (c.tb.drop i) = (c.tb.getD i []).flatten ++ rulesA (c.tb.drop (i + 1)) := by
      rw [drop_getD c.tb i [] hn]; simp [rulesA]
    rw [e1] at h1
    generalize c.tb.getD i [] = t at r1 h1 hsm
    have b1 := hsm.1
    (repeat (first | refine q0 ?_ | refine z6 rfl ?_ | refine x6 rfl ?_ | refine j5 ?_ | (refine x4 fun K hK => ?_) | (refine j4 (by kernel_rfl) (by kernel_rfl) fun K hK => ?_) | ((first | refine z5 ?_ | refine x5 ?_ | ((first | refine j0 (hK _ ?_) | refine z4 (hK _ _ (z3 (by kernel_rfl)) ?_)); clear hK K)); (first | show AWP _ _ _ _ _ | ((try simp only [q6]); first | show loopQ _ _ _ _ _ _ | show cutQ _ _ _ _ | show AWP _ _ _ _ _))) | ((first | refine j6 [6] rfl ?_ | refine q7 [6] rfl ?_); simp (maxSteps := 2000000) (disch := omega) only [go_sem, seval, hd, cb, ruleD, configD, spotD, x7, r1]; (repeat (first | refine ⟨by omega, ?_⟩ | refine ⟨True.intro, ?_⟩)))))
    refine awp_loop (ruleRJ c.tb c R i t) (fun s => t.length - s.val.1) ⟨(0, out, g), by omega, by rw [List.drop_zero]; exact h1⟩ ?_ (fun s => ?_)
    · unfold ruleRJ
      refine Weak.list ?_ ?_; (all_goals simp (disch := omega) only [AllF, AllL, j9, q10, x9, exists_eq_left', Option.some.injEq, go_sem, seval, hd, cb, ruleD, configD, spotD, x7, r1]); (all_goals (repeat' (with_reducible apply And.intro))); (all_goals try (first | exact z7 rfl | (refine z10 ?_; omega) | (refine z7 ?_; simp; done)))
    obtain ⟨⟨j, ou2, g2⟩, hj, h2⟩ := s
    simp only [] at hj h2
    unfold ruleRJ
    simp only []
    by_cases hm : j < t.length
    · have r2 := rowRR_at t j
      have e2 : (t.drop j).flatten = t.getD j [] ++ (t.drop (j + 1)).flatten := by
        rw [drop_getD t j [] hm]; simp
      rw [e2] at h2
      generalize t.getD j [] = l at r2 h2
      have hlen : ou2.length + l.length ≤ R.length := by
        rw [← h2]; simp
      (repeat (first | refine q0 ?_ | refine z6 rfl ?_ | refine x6 rfl ?_ | refine j5 ?_ | (refine x4 fun K hK => ?_) | (refine j4 (by kernel_rfl) (by kernel_rfl) fun K hK => ?_) | ((first | refine z5 ?_ | refine x5 ?_ | ((first | refine j0 (hK _ ?_) | refine z4 (hK _ _ (z3 (by kernel_rfl)) ?_)); clear hK K)); (first | show AWP _ _ _ _ _ | ((try simp only [q6]); first | show loopQ _ _ _ _ _ _ | show cutQ _ _ _ _ | show AWP _ _ _ _ _))) | ((first | refine j6 [6] rfl ?_ | refine q7 [6] rfl ?_); simp (maxSteps := 2000000) (disch := omega) only [go_sem, seval, hd, cb, ruleD, configD, spotD, x7, r1, r2]; (repeat (first | refine ⟨by omega, ?_⟩ | refine ⟨True.intro, ?_⟩)))))
      refine ⟨⟨(j + 1, ou2 ++ l, g2 + 1), by simp only []; omega, by rw [← h2]; simp⟩, by simp only []; omega, ?_⟩
      refine Weak.list ?_ ?_; (all_goals simp (disch := omega) only [AllF, AllL, j9, q10, x9, exists_eq_left', Option.some.injEq, go_sem, seval, hd, cb, ruleD, configD, spotD, x7, r1, r2]); (all_goals (repeat' (with_reducible apply And.intro))); (all_goals try (first | exact z7 rfl | (refine z10 ?_; omega) | (refine z7 ?_; simp; done)))
      · exact le_grgr rfl (by simp) (fun k hk => rowR_app ou2 l k)
      · exact lle_grow (by simp) rfl
    · have : j = t.length := by omega
      subst this
      (repeat (first | refine q0 ?_ | refine z6 rfl ?_ | refine x6 rfl ?_ | refine j5 ?_ | (refine x4 fun K hK => ?_) | (refine j4 (by kernel_rfl) (by kernel_rfl) fun K hK => ?_) | ((first | refine z5 ?_ | refine x5 ?_ | ((first | refine j0 (hK _ ?_) | refine z4 (hK _ _ (z3 (by kernel_rfl)) ?_)); clear hK K)); (first | show AWP _ _ _ _ _ | ((try simp only [q6]); first | show loopQ _ _ _ _ _ _ | show cutQ _ _ _ _ | show AWP _ _ _ _ _))) | ((first | refine j6 [6] rfl ?_ | refine q7 [6] rfl ?_); simp (maxSteps := 2000000) (disch := omega) only [go_sem, seval, hd, cb, ruleD, configD, spotD, x7, r1]; (repeat (first | refine ⟨by omega, ?_⟩ | refine ⟨True.intro, ?_⟩)))))
      refine ⟨⟨(i + 1, ou2, g2), by simp only []; omega, by rw [← h2]; simp⟩, by simp only []; omega, ?_⟩
      refine Weak.list ?_ ?_; (all_goals simp (disch := omega) only [AllF, AllL, j9, q10, x9, exists_eq_left', Option.some.injEq, go_sem, seval, hd, cb, ruleD, configD, spotD, x7, r1]); (all_goals (repeat' (with_reducible apply And.intro))); (all_goals try (first | exact z7 rfl | (refine z10 ?_; omega) | (refine z7 ?_; simp; done)))
  · have : i = c.tb.length := by omega
    subst this
    have hr : out = R := by rw [← h1]; simp [rulesA]
    subst hr
    (repeat (first | refine q0 ?_ | refine z6 rfl ?_ | refine x6 rfl ?_ | refine j5 ?_ | (refine x4 fun K hK => ?_) | (refine j4 (by kernel_rfl) (by kernel_rfl) fun K hK => ?_) | ((first | refine z5 ?_ | refine x5 ?_ | ((first | refine j0 (hK _ ?_) | refine z4 (hK _ _ (z3 (by kernel_rfl)) ?_)); clear hK K)); (first | show AWP _ _ _ _ _ | ((try simp only [q6]); first | show loopQ _ _ _ _ _ _ | show cutQ _ _ _ _ | show AWP _ _ _ _ _))) | ((first | refine j6 [6] rfl ?_ | refine q7 [6] rfl ?_); simp (maxSteps := 2000000) (disch := omega) only [go_sem, seval, hd, cb, ruleD, configD, spotD, x7]; (repeat (first | refine ⟨by omega, ?_⟩ | refine ⟨True.intro, ?_⟩)))))
    refine awp_slot 2 _ (.p (.d (.sl 12 out.length (rowR out)))) rfl (le_gr rfl (fun _ _ => rfl)) ?_
    refine j7 ⟨_, ?_, rfl⟩; rw [Try.results29]; simp (disch := omega) only [ResVars, ResVar, ptrLoc, go_sem, seval, hd, cb, ruleD, configD, spotD, x7]
theorem setH_zero (k : Cube) (h : k.v &&& k.c = k.v) : setH 0 k = k.v := by
  unfold setH
  apply BitVec.eq_of_getLsbD_eq
  intro i hi
  have := congrArg (fun x => x.getLsbD i) h
  simp only [BitVec.getLsbD_and, BitVec.getLsbD_or, BitVec.getLsbD_not] at this ⊢
  revert this
  cases k.v.getLsbD i <;> cases k.c.getLsbD i <;> simp
theorem stampV_v (tn v : Nat) (ht : tn + 1 < 2 ^ 24) (hv : v < 2 ^ 8) : (stampV (tn : Int) (v : Int)).v = stampR 0 (tn + 1) v := by
  rw [← stamp_eq 0 tn v ht hv, setH_zero]
  unfold stampV mkC
  apply BitVec.eq_of_getLsbD_eq
  intro i hi
  simp only [BitVec.getLsbD_and]
  cases (ones 40 <<< 88 : BitVec 128).getLsbD i <;> simp
theorem care_hi : hi (ones 40 <<< 88) = 18446744073692774400 := by decide +kernel
theorem care_lo : lo (ones 40 <<< 88) = 0 := by decide +kernel
theorem stampV_c (tn v : Int) : (stampV tn v).c = ones 40 <<< 88 := rfl
theorem maskR_c (tn v : Nat) (ht : tn < 1000) (hv : v ≤ 255) : ACalls Try.prog 58 [.d (.v (.int .i64 (tn : Int))), .d (.v (.int .i64 (v : Int)))] (· = [.agg (cb (stampV (tn : Int) (v : Int)))]) := by
  have st := StampR_c 0 tn v (by omega) (by omega)
  simp only [hd, hi_zero, lo_zero] at st
  have e := stampV_v tn v (by omega) (by omega)
  have e2 := stampV_c (tn : Int) (v : Int)
  generalize stampV (tn : Int) (v : Int) = k at e e2
  have e3 : cb k = [.v (.int .u64 (hi (stampR 0 (tn + 1) v))), .v (.int .u64 (lo (stampR 0 (tn + 1) v))), .v (.int .u64 18446744073692774400), .v (.int .u64 0)] := by
    unfold cb; rw [e, e2, care_hi, care_lo]
  rw [e3]
  generalize stampR 0 (tn + 1) v = z at st
  refine z9 Try.func58 rfl (by decide +kernel) (by rw [Try.ntmps58]; simp) ?_; rw [Try.ntmps58]; simp only [frOf]
  (repeat (first | refine q0 ?_ | refine z6 rfl ?_ | refine x6 rfl ?_ | refine j5 ?_ | (refine x4 fun K hK => ?_) | (refine j4 (by kernel_rfl) (by kernel_rfl) fun K hK => ?_) | ((first | refine z5 ?_ | refine x5 ?_ | ((first | refine j0 (hK _ ?_) | refine z4 (hK _ _ (z3 (by kernel_rfl)) ?_)); clear hK K)); (first | show AWP _ _ _ _ _ | ((try simp only [q6]); first | show loopQ _ _ _ _ _ _ | show cutQ _ _ _ _ | show AWP _ _ _ _ _))) | ((first | refine j8 rfl rfl rfl ?_ | refine q9 rfl rfl rfl ?_); simp (maxSteps := 2000000) (disch := omega) only [go_sem, seval, hd, cb, ruleD, configD, spotD, x7]; (first | refine ⟨_, st, ?_⟩)) | ((first | refine j6 [] rfl ?_ | refine q7 [] rfl ?_); simp (maxSteps := 2000000) (disch := omega) only [go_sem, seval, hd, cb, ruleD, configD, spotD, x7]; (repeat (first | refine ⟨by omega, ?_⟩ | refine ⟨True.intro, ?_⟩)))))
  refine j7 ⟨_, ?_, rfl⟩; rw [Try.results58]; simp (disch := omega) only [ResVars, ResVar, ptrLoc, go_sem, seval, hd, cb, ruleD, configD, spotD, x7]
end Go.Proofs.Ytbamjcnhmmgnlaa
set_option linter.unusedSimpArgs false
set_option linter.unusedVariables false
namespace Go.Proofs.Ytbamjcnhmmgnlaa
open Go Go.Proofs.Ytbamjcnhmmgnlaa.AL
theorem predE_zero {c : Config} {v : Int} (h : predE c v = 0) : soundC c = 0 ∧ 0 ≤ v ∧ v ≤ 255 := by
  unfold predE at h
  split at h
  · contradiction
  · rename_i hh
    split at h
    · exact absurd h (by decide)
    · exact ⟨by simpa using hh, by omega, by omega⟩
theorem stampC_at {c : Config} {v : Int} (h : predE c v = 0) {s : Spot} (hs : s ∈ edgesT c.tp) : ∃ tn : Nat, tn < 4 ∧ edgeT c.tp s = (tn : Int) ∧ stampE c s v = 0 ∧ stampC c s v = stampV (tn : Int) v := by
  obtain ⟨h0, h1, h2⟩ := predE_zero h
  have ht : soundT c.tp = 0 := by
    unfold soundC at h0
    split at h0
    · contradiction
    · rename_i hh; simpa using hh
  obtain ⟨k1, k2⟩ := sound_tenant ht hs
  have e : stampE c s v = 0 := by
    unfold stampE
    rw [if_neg (by simp [h0]), if_neg (by omega), if_neg]
    unfold edgesHas
    simp only [Bool.not_eq_false, List.contains_iff_mem]
    exact hs
  refine ⟨(edgeT c.tp s).toNat, by omega, by omega, e, ?_⟩
  unfold stampC
  rw [if_pos e, Int.toNat_of_nonneg k1]
theorem wrong_c (c : Config) (v : Int) (hc : c.small) : ACalls Try.prog 25 [.agg (configD c), .d (.v (.int .i64 v))] (· = [.d (.v (.int .i64 (predE c v)))]) := by
  have so := SoundCR_c c hc
  unfold predE
  by_cases h : soundC c = 0
  · rw [if_neg (by simpa using h)]
    rw [h] at so
    by_cases h1 : v < 0
    · have q1 : decide (v < 0) = true := decide_eq_true h1
      rw [if_pos (.inl h1)]
      refine z9 Try.func25 rfl (by decide +kernel) (by rw [Try.ntmps25]; simp) ?_; rw [Try.ntmps25]; simp only [frOf]
      (repeat (first | refine q0 ?_ | refine z6 rfl ?_ | refine x6 rfl ?_ | refine j5 ?_ | (refine x4 fun K hK => ?_) | (refine j4 (by kernel_rfl) (by kernel_rfl) fun K hK => ?_) | ((first | refine z5 ?_ | refine x5 ?_ | ((first | refine j0 (hK _ ?_) | refine z4 (hK _ _ (z3 (by kernel_rfl)) ?_)); clear hK K)); (first | show AWP _ _ _ _ _ | ((try simp only [q6]); first | show loopQ _ _ _ _ _ _ | show cutQ _ _ _ _ | show AWP _ _ _ _ _))) | ((first | refine j8 rfl rfl rfl ?_ | refine q9 rfl rfl rfl ?_); simp (maxSteps := 2000000) (disch := omega) only [go_sem, seval, hd, cb, ruleD, configD, spotD, topoD, x7, q1]; (first | refine ⟨_, so, ?_⟩)) | ((first | refine j6 [] rfl ?_ | refine q7 [] rfl ?_); simp (maxSteps := 2000000) (disch := omega) only [go_sem, seval, hd, cb, ruleD, configD, spotD, topoD, x7, q1]; (repeat (first | refine ⟨by omega, ?_⟩ | refine ⟨True.intro, ?_⟩)))))
      refine j7 ⟨_, ?_, rfl⟩; rw [Try.results25]; simp (disch := omega) only [ResVars, ResVar, ptrLoc, go_sem, seval, hd, cb, ruleD, configD, spotD, topoD, x7, q1]
    · have q1 : decide (v < 0) = false := decide_eq_false h1
      by_cases h2 : 255 < v
      · have q2 : decide (255 < v) = true := decide_eq_true h2
        rw [if_pos (.inr h2)]
        refine z9 Try.func25 rfl (by decide +kernel) (by rw [Try.ntmps25]; simp) ?_; rw [Try.ntmps25]; simp only [frOf]
        (repeat (first | refine q0 ?_ | refine z6 rfl ?_ | refine x6 rfl ?_ | refine j5 ?_ | (refine x4 fun K hK => ?_) | (refine j4 (by kernel_rfl) (by kernel_rfl) fun K hK => ?_) | ((first | refine z5 ?_ | refine x5 ?_ | ((first | refine j0 (hK _ ?_) | refine z4 (hK _ _ (z3 (by kernel_rfl)) ?_)); clear hK K)); (first | show AWP _ _ _ _ _ | ((try simp only [q6]); first | show loopQ _ _ _ _ _ _ | show cutQ _ _ _ _ | show AWP _ _ _ _ _))) | ((first | refine j8 rfl rfl rfl ?_ | refine q9 rfl rfl rfl ?_); simp (maxSteps := 2000000) (disch := omega) only [go_sem, seval, hd, cb, ruleD, configD, spotD, topoD, x7, q1, q2]; (first | refine ⟨_, so, ?_⟩)) | ((first | refine j6 [] rfl ?_ | refine q7 [] rfl ?_); simp (maxSteps := 2000000) (disch := omega) only [go_sem, seval, hd, cb, ruleD, configD, spotD, topoD, x7, q1, q2]; (repeat (first | refine ⟨by omega, ?_⟩ | refine ⟨True.intro, ?_⟩)))))
        refine j7 ⟨_, ?_, rfl⟩; rw [Try.results25]; simp (disch := omega) only [ResVars, ResVar, ptrLoc, go_sem, seval, hd, cb, ruleD, configD, spotD, topoD, x7, q1, q2]
      · have q2 : decide (255 < v) = false := decide_eq_false h2
        rw [if_neg (by omega)]
        refine z9 Try.func25 rfl (by decide +kernel) (by rw [Try.ntmps25]; simp) ?_; rw [Try.ntmps25]; simp only [frOf]
        (repeat (first | refine q0 ?_ | refine z6 rfl ?_ | refine x6 rfl ?_ | refine j5 ?_ | (refine x4 fun K hK => ?_) | (refine j4 (by kernel_rfl) (by kernel_rfl) fun K hK => ?_) | ((first | refine z5 ?_ | refine x5 ?_ | ((first | refine j0 (hK _ ?_) | refine z4 (hK _ _ (z3 (by kernel_rfl)) ?_)); clear hK K)); (first | show AWP _ _ _ _ _ | ((try simp only [q6]); first | show loopQ _ _ _ _ _ _ | show cutQ _ _ _ _ | show AWP _ _ _ _ _))) | ((first | refine j8 rfl rfl rfl ?_ | refine q9 rfl rfl rfl ?_); simp (maxSteps := 2000000) (disch := omega) only [go_sem, seval, hd, cb, ruleD, configD, spotD, topoD, x7, q1, q2]; (first | refine ⟨_, so, ?_⟩)) | ((first | refine j6 [] rfl ?_ | refine q7 [] rfl ?_); simp (maxSteps := 2000000) (disch := omega) only [go_sem, seval, hd, cb, ruleD, configD, spotD, topoD, x7, q1, q2]; (repeat (first | refine ⟨by omega, ?_⟩ | refine ⟨True.intro, ?_⟩)))))
        refine j7 ⟨_, ?_, rfl⟩; rw [Try.results25]; simp (disch := omega) only [ResVars, ResVar, ptrLoc, go_sem, seval, hd, cb, ruleD, configD, spotD, topoD, x7, q1, q2]
  · rw [if_pos h]
    have q := ieq_ff h
    refine z9 Try.func25 rfl (by decide +kernel) (by rw [Try.ntmps25]; simp) ?_; rw [Try.ntmps25]; simp only [frOf]
    (repeat (first | refine q0 ?_ | refine z6 rfl ?_ | refine x6 rfl ?_ | refine j5 ?_ | (refine x4 fun K hK => ?_) | (refine j4 (by kernel_rfl) (by kernel_rfl) fun K hK => ?_) | ((first | refine z5 ?_ | refine x5 ?_ | ((first | refine j0 (hK _ ?_) | refine z4 (hK _ _ (z3 (by kernel_rfl)) ?_)); clear hK K)); (first | show AWP _ _ _ _ _ | ((try simp only [q6]); first | show loopQ _ _ _ _ _ _ | show cutQ _ _ _ _ | show AWP _ _ _ _ _))) | ((first | refine j8 rfl rfl rfl ?_ | refine q9 rfl rfl rfl ?_); simp (maxSteps := 2000000) (disch := omega) only [go_sem, seval, hd, cb, ruleD, configD, spotD, topoD, x7, q]; (first | refine ⟨_, so, ?_⟩)) | ((first | refine j6 [] rfl ?_ | refine q7 [] rfl ?_); simp (maxSteps := 2000000) (disch := omega) only [go_sem, seval, hd, cb, ruleD, configD, spotD, topoD, x7, q]; (repeat (first | refine ⟨by omega, ?_⟩ | refine ⟨True.intro, ?_⟩)))))
    refine j7 ⟨_, ?_, rfl⟩; rw [Try.results25]; simp (disch := omega) only [ResVars, ResVar, ptrLoc, go_sem, seval, hd, cb, ruleD, configD, spotD, topoD, x7, q]
def setsRI (c : Config) (v : Nat) (l : List Spot) (R : List Cube) (s : {s : Nat × List Cube // s.1 ≤ l.length ∧ (l.drop s.1).foldl (stampF c v) s.2 = R ∧ s.2.length ≤ s.1}) : ASt :=
  ⟨[(7, .p (.d (.v (.int .i64 (s.val.1 : Int))))), (6, .p (.d (.sl 2 l.length (rowS l)))), (5, .p (.d (.sl 4 s.val.2.length (rowC s.val.2)))), (2, .p (.d (.bx (configD c)))), (1, .p (.d (.v (.int .i64 (v : Int)))))], []⟩
def setsRJ (l : List Rule) (R : List Cube) (N : Nat) (s : {s : Nat × List Cube // s.1 ≤ l.length ∧ (l.drop s.1).foldl setF s.2 = R ∧ s.2.length ≤ N + s.1}) : ASt :=
  ⟨[(9, .p (.d (.v (.int .i64 (s.val.1 : Int))))), (8, .p (.d (.sl 12 l.length (rowR l)))), (5, .p (.d (.sl 4 s.val.2.length (rowC s.val.2))))], []⟩
set_option maxRecDepth 100000 in
set_option maxHeartbeats 4000000 in
theorem setsR_c (c : Config) (v : Nat) (hc : c.small) (h : predE c v = 0) : ACalls Try.prog 27 [.agg (configD c), .d (.v (.int .i64 (v : Int)))] (· = [.d (.sl 4 (setsL c v).length (rowC (setsL c v)))]) := by
  obtain ⟨h0, h1, h2⟩ := predE_zero h
  have hb := sound_limits h0
  have ed := EdgesR_c c.tp hc.tp
  have ru := rulesR_c c hc (by omega)
  have rl := rulesA_len c.tb
  unfold setsL setsE
  rw [fold3_flat]
  have hst : ∀ i, i < (edgesT c.tp).length → ∃ tn : Nat, tn < 4 ∧ edgeT c.tp ((edgesT c.tp).getD i s0) = (tn : Int) ∧ stampE c ((edgesT c.tp).getD i s0) v = 0 ∧ stampC c ((edgesT c.tp).getD i s0) v = stampV (tn : Int) v := fun i hi => stampC_at h (getD_in hi s0)
  generalize edgesT c.tp = l at ed hb hst
  generalize rulesA c.tb = rs at ru rl
  obtain ⟨R, hR⟩ : ∃ x, l.foldl (stampF c v) [] = x := ⟨_, rfl⟩
  have hRl : R.length ≤ 36 := by
    have := foldl_len (stampF c v) (fun L a => addC_len L _) l []
    rw [hR] at this; simp at this; omega
  rw [hR]
  obtain ⟨R2, hR2⟩ : ∃ x, rs.foldl setF R = x := ⟨_, rfl⟩
  rw [hR2]
  refine z9 Try.func27 rfl (by decide +kernel) (by rw [Try.ntmps27]; simp) ?_; rw [Try.ntmps27]; simp only [frOf]
  (repeat (first | refine q0 ?_ | refine z6 rfl ?_ | refine x6 rfl ?_ | refine j5 ?_ | (refine x4 fun K hK => ?_) | (refine j4 (by kernel_rfl) (by kernel_rfl) fun K hK => ?_) | ((first | refine z5 ?_ | refine x5 ?_ | ((first | refine j0 (hK _ ?_) | refine z4 (hK _ _ (z3 (by kernel_rfl)) ?_)); clear hK K)); (first | show AWP _ _ _ _ _ | ((try simp only [q6]); first | show loopQ _ _ _ _ _ _ | show cutQ _ _ _ _ | show AWP _ _ _ _ _))) | ((first | refine j8 rfl rfl rfl ?_ | refine q9 rfl rfl rfl ?_); simp (maxSteps := 2000000) (disch := omega) only [go_sem, seval, hd, cb, ruleD, configD, spotD, topoD, x7]; (first | refine ⟨_, ed, ?_⟩)) | ((first | refine j6 [] rfl ?_ | refine q7 [] rfl ?_); simp (maxSteps := 2000000) (disch := omega) only [go_sem, seval, hd, cb, ruleD, configD, spotD, topoD, x7]; (repeat (first | refine ⟨by omega, ?_⟩ | refine ⟨True.intro, ?_⟩)))))
  refine awp_loop (setsRI c v l R) (fun s => l.length - s.val.1) ⟨(0, []), by omega, by rw [List.drop_zero]; exact hR, by simp⟩ ?_ (fun s => ?_)
  · unfold setsRI
    refine Weak.list ?_ ?_; (all_goals simp (disch := omega) only [AllF, AllL, j9, q10, x9, exists_eq_left', Option.some.injEq, go_sem, seval, hd, cb, ruleD, configD, spotD, topoD, x7]); (all_goals (repeat' (with_reducible apply And.intro))); (all_goals try (first | exact z7 rfl | (refine z10 ?_; omega) | (refine z7 ?_; simp; done)))
    exact le_sl rfl (fun i hi => by omega)
  obtain ⟨⟨i, L⟩, hi, k1, k2⟩ := s
  simp only [] at hi k1 k2
  unfold setsRI
  simp only []
  by_cases hn : i < l.length
  · have r1 := rowS_at l i
    obtain ⟨tn, t1, t2, t3, t4⟩ := hst i hn
    rw [drop_getD l i s0 hn] at k1
    simp only [List.foldl_cons] at k1
    generalize l.getD i s0 = s at r1 t2 t3 t4 k1
    have eg := EdgeR_c c.tp s hc.tp
    rw [t2] at eg
    have mk := maskR_c tn v (by omega) (by omega)
    unfold stampF at k1
    rw [t4] at k1
    have ad := addR_c L (stampV (tn : Int) (v : Int)) (by omega)
    have al := addC_len L (stampV (tn : Int) (v : Int))
    generalize addC L (stampV (tn : Int) (v : Int)) = L2 at ad al k1
    generalize stampV (tn : Int) (v : Int) = k at mk ad
    (repeat (first | refine q0 ?_ | refine z6 rfl ?_ | refine x6 rfl ?_ | refine j5 ?_ | (refine x4 fun K hK => ?_) | (refine j4 (by kernel_rfl) (by kernel_rfl) fun K hK => ?_) | ((first | refine z5 ?_ | refine x5 ?_ | ((first | refine j0 (hK _ ?_) | refine z4 (hK _ _ (z3 (by kernel_rfl)) ?_)); clear hK K)); (first | show AWP _ _ _ _ _ | ((try simp only [q6]); first | show loopQ _ _ _ _ _ _ | show cutQ _ _ _ _ | show AWP _ _ _ _ _))) | ((first | refine j8 rfl rfl rfl ?_ | refine q9 rfl rfl rfl ?_); simp (maxSteps := 2000000) (disch := omega) only [go_sem, seval, hd, cb, ruleD, configD, spotD, topoD, x7, r1]; (first | refine ⟨_, eg, ?_⟩ | refine ⟨_, mk, ?_⟩ | refine ⟨_, ad, ?_⟩)) | ((first | refine j6 [] rfl ?_ | refine q7 [] rfl ?_); simp (maxSteps := 2000000) (disch := omega) only [go_sem, seval, hd, cb, ruleD, configD, spotD, topoD, x7, r1]; (repeat (first | refine ⟨by omega, ?_⟩ | refine ⟨True.intro, ?_⟩)))))
    refine ⟨⟨(i + 1, L2), by simp only []; omega, k1, by simp only []; omega⟩, by simp only []; omega, ?_⟩
    refine Weak.list ?_ ?_; (all_goals simp (disch := omega) only [AllF, AllL, j9, q10, x9, exists_eq_left', Option.some.injEq, go_sem, seval, hd, cb, ruleD, configD, spotD, topoD, x7, r1]); (all_goals (repeat' (with_reducible apply And.intro))); (all_goals try (first | exact z7 rfl | (refine z10 ?_; omega) | (refine z7 ?_; simp; done)))
  · have : i = l.length := by omega
    subst this
    rw [List.drop_length] at k1
    obtain rfl : L = R := k1
    (repeat (first | refine q0 ?_ | refine z6 rfl ?_ | refine x6 rfl ?_ | refine j5 ?_ | (refine x4 fun K hK => ?_) | (refine j4 (by kernel_rfl) (by kernel_rfl) fun K hK => ?_) | ((first | refine z5 ?_ | refine x5 ?_ | ((first | refine j0 (hK _ ?_) | refine z4 (hK _ _ (z3 (by kernel_rfl)) ?_)); clear hK K)); (first | show AWP _ _ _ _ _ | ((try simp only [q6]); first | show loopQ _ _ _ _ _ _ | show cutQ _ _ _ _ | show AWP _ _ _ _ _))) | ((first | refine j8 rfl rfl rfl ?_ | refine q9 rfl rfl rfl ?_); simp (maxSteps := 2000000) (disch := omega) only [go_sem, seval, hd, cb, ruleD, configD, spotD, topoD, x7]; (first | refine ⟨_, ru, ?_⟩)) | ((first | refine j6 [] rfl ?_ | refine q7 [] rfl ?_); simp (maxSteps := 2000000) (disch := omega) only [go_sem, seval, hd, cb, ruleD, configD, spotD, topoD, x7]; (repeat (first | refine ⟨by omega, ?_⟩ | refine ⟨True.intro, ?_⟩)))))
    refine awp_loop (setsRJ rs R2 36) (fun s => rs.length - s.val.1) ⟨(0, L), by omega, by rw [List.drop_zero]; exact hR2, by simp only []; omega⟩ ?_ (fun s => ?_)
    · unfold setsRJ
      refine Weak.list ?_ ?_; (all_goals simp (disch := omega) only [AllF, AllL, j9, q10, x9, exists_eq_left', Option.some.injEq, go_sem, seval, hd, cb, ruleD, configD, spotD, topoD, x7]); (all_goals (repeat' (with_reducible apply And.intro))); (all_goals try (first | exact z7 rfl | (refine z10 ?_; omega) | (refine z7 ?_; simp; done)))
    obtain ⟨⟨j, L2⟩, hj, k3, k4⟩ := s
    simp only [] at hj k3 k4
    unfold setsRJ
    simp only []
    by_cases hm : j < rs.length
    · have r1 := rowR_at rs j
      rw [drop_getD rs j r0 hm] at k3
      simp only [List.foldl_cons] at k3
      generalize rs.getD j r0 = r at r1 k3
      have q := eqI_cb r.st ⟨0, 0⟩
      simp only [hi_zero, lo_zero] at q
      unfold setF at k3
      by_cases hz : r.st = ⟨0, 0⟩
      · rw [if_pos hz] at k3
        rw [show (r.st == (⟨0, 0⟩ : Cube)) = true by rw [hz]; exact beq_self_eq_true _] at q
        (repeat (first | refine q0 ?_ | refine z6 rfl ?_ | refine x6 rfl ?_ | refine j5 ?_ | (refine x4 fun K hK => ?_) | (refine j4 (by kernel_rfl) (by kernel_rfl) fun K hK => ?_) | ((first | refine z5 ?_ | refine x5 ?_ | ((first | refine j0 (hK _ ?_) | refine z4 (hK _ _ (z3 (by kernel_rfl)) ?_)); clear hK K)); (first | show AWP _ _ _ _ _ | ((try simp only [q6]); first | show loopQ _ _ _ _ _ _ | show cutQ _ _ _ _ | show AWP _ _ _ _ _))) | ((first | refine j6 [] rfl ?_ | refine q7 [] rfl ?_); simp (maxSteps := 2000000) (disch := omega) only [go_sem, seval, hd, cb, ruleD, configD, spotD, topoD, x7, r1, q]; (repeat (first | refine ⟨by omega, ?_⟩ | refine ⟨True.intro, ?_⟩)))))
        refine ⟨⟨(j + 1, L2), by simp only []; omega, k3, by simp only []; omega⟩, by simp only []; omega, ?_⟩
        refine Weak.list ?_ ?_; (all_goals simp (disch := omega) only [AllF, AllL, j9, q10, x9, exists_eq_left', Option.some.injEq, go_sem, seval, hd, cb, ruleD, configD, spotD, topoD, x7, r1, q]); (all_goals (repeat' (with_reducible apply And.intro))); (all_goals try (first | exact z7 rfl | (refine z10 ?_; omega) | (refine z7 ?_; simp; done)))
      · rw [if_neg hz] at k3
        rw [show (r.st == (⟨0, 0⟩ : Cube)) = false by rw [beq_eq_false_iff_ne]; exact hz] at q
        have ad := addR_c L2 r.st (by omega)
        have al := addC_len L2 r.st
        generalize addC L2 r.st = L3 at ad al k3
        (repeat (first | refine q0 ?_ | refine z6 rfl ?_ | refine x6 rfl ?_ | refine j5 ?_ | (refine x4 fun K hK => ?_) | (refine j4 (by kernel_rfl) (by kernel_rfl) fun K hK => ?_) | ((first | refine z5 ?_ | refine x5 ?_ | ((first | refine j0 (hK _ ?_) | refine z4 (hK _ _ (z3 (by kernel_rfl)) ?_)); clear hK K)); (first | show AWP _ _ _ _ _ | ((try simp only [q6]); first | show loopQ _ _ _ _ _ _ | show cutQ _ _ _ _ | show AWP _ _ _ _ _))) | ((first | refine j8 rfl rfl rfl ?_ | refine q9 rfl rfl rfl ?_); simp (maxSteps := 2000000) (disch := omega) only [go_sem, seval, hd, cb, ruleD, configD, spotD, topoD, x7, r1, q]; (first | refine ⟨_, ad, ?_⟩)) | ((first | refine j6 [] rfl ?_ | refine q7 [] rfl ?_); simp (maxSteps := 2000000) (disch := omega) only [go_sem, seval, hd, cb, ruleD, configD, spotD, topoD, x7, r1, q]; (repeat (first | refine ⟨by omega, ?_⟩ | refine ⟨True.intro, ?_⟩)))))
        refine ⟨⟨(j + 1, L3), by simp only []; omega, k3, by simp only []; omega⟩, by simp only []; omega, ?_⟩
        refine Weak.list ?_ ?_; (all_goals simp (disch := omega) only [AllF, AllL, j9, q10, x9, exists_eq_left', Option.some.injEq, go_sem, seval, hd, cb, ruleD, configD, spotD, topoD, x7, r1, q]); (all_goals (repeat' (with_reducible apply And.intro))); (all_goals try (first | exact z7 rfl | (refine z10 ?_; omega) | (refine z7 ?_; simp; done)))
    · have : j = rs.length := by omega
      subst this
      rw [List.drop_length] at k3
      obtain rfl : L2 = R2 := k3
      (repeat (first | refine q0 ?_ | refine z6 rfl ?_ | refine x6 rfl ?_ | refine j5 ?_ | (refine x4 fun K hK => ?_) | (refine j4 (by kernel_rfl) (by kernel_rfl) fun K hK => ?_) | ((first | refine z5 ?_ | refine x5 ?_ | ((first | refine j0 (hK _ ?_) | refine z4 (hK _ _ (z3 (by kernel_rfl)) ?_)); clear hK K)); (first | show AWP _ _ _ _ _ | ((try simp only [q6]); first | show loopQ _ _ _ _ _ _ | show cutQ _ _ _ _ | show AWP _ _ _ _ _))) | ((first | refine j6 [] rfl ?_ | refine q7 [] rfl ?_); simp (maxSteps := 2000000) (disch := omega) only [go_sem, seval, hd, cb, ruleD, configD, spotD, topoD, x7]; (repeat (first | refine ⟨by omega, ?_⟩ | refine ⟨True.intro, ?_⟩)))))
      refine j7 ⟨_, ?_, rfl⟩; rw [Try.results27]; simp (disch := omega) only [ResVars, ResVar, ptrLoc, go_sem, seval, hd, cb, ruleD, configD, spotD, topoD, x7]
end Go.Proofs.Ytbamjcnhmmgnlaa
set_option linter.unusedSimpArgs false
set_option linter.unusedVariables false
namespace Go.Proofs.Ytbamjcnhmmgnlaa
open Go Go.Proofs.Ytbamjcnhmmgnlaa.AL
def DLe (x y : Dat) : Prop := ∀ (w : World) (g : Nat → Nat) (v : Value), RelD w g v x → RelD w g v y
inductive DLes : List Dat → List Dat → Prop
  | nil : DLes [] []
  | cons {x y : Dat} {xs ys : List Dat} (h : DLe x y) (t : DLes xs ys) : DLes (x :: xs) (y :: ys)
theorem dle_refl (x : Dat) : DLe x x := fun _ _ _ h => h
theorem DLes.refl : ∀ xs : List Dat, DLes xs xs
  | [] => .nil
  | x :: xs => .cons (dle_refl x) (DLes.refl xs)
theorem DLes.of_eq {xs ys : List Dat} (h : xs = ys) : DLes xs ys := h ▸ DLes.refl xs
theorem DLes.length {xs ys : List Dat} (h : DLes xs ys) : xs.length = ys.length := by
  induction h with
  | nil => rfl
  | cons _ _ ih => simp [ih]
theorem DLes.at {xs ys : List Dat} (h : DLes xs ys) : ∀ {j : Nat} {y : Dat}, ys[j]? = some y → ∃ x, xs[j]? = some x ∧ DLe x y := by
  induction h with
  | nil => intro j y h; simp at h
  | cons h t ih =>
    intro j y hy
    cases j with
    | zero => simp at hy; subst hy; exact ⟨_, by simp, h⟩
    | succ j => simp at hy; obtain ⟨x, h1, h2⟩ := ih hy; exact ⟨x, by simpa using h1, h2⟩
theorem dle_sl {sz n n' : Nat} {f f' : Nat → List Dat} (hn : n = n') (hf : ∀ i, i < n → DLes (f i) (f' i)) : DLe (.sl sz n f) (.sl sz n' f') := by
  subst hn
  intro w g v r
  cases r with
  | sl0 a c sz f => exact .sl0 _ _ _ _
  | sl b off n c sz f u h1 h2 h3 h4 h5 =>
    refine .sl b off n c sz f' u h1 (fun i hi => by rw [← (hf i hi).length]; exact h2 i hi) h3 h4 (fun i j y hi hy => ?_)
    obtain ⟨x, k1, k2⟩ := (hf i hi).at hy
    exact k2 _ _ _ (h5 i j x hi k1)
theorem dle_emp {a : Option Addr} {c sz : Nat} {f : Nat → List Dat} : DLe (.v (.slice a 0 c)) (.sl sz 0 f) := by
  intro w g v r
  cases r
  exact .sl0 _ _ _ _
theorem ple_agg {xs ys : List Dat} (h : DLes xs ys) : PLe (.agg xs) (.agg ys) := by
  intro w g v r
  cases r with
  | agg vs _ h1 h2 =>
    refine .agg vs ys (by rw [h1, h.length]) (fun j v y hv hy => ?_)
    obtain ⟨x, k1, k2⟩ := h.at hy
    exact k2 _ _ _ (h2 j v x hv k1)
theorem acalls_agg {P : Program} {f : FuncId} {xs : List PV} {ds ds' : List Dat} (h : DLes ds ds') (c : ACalls P f xs (· = [.agg ds])) : ACalls P f xs (· = [.agg ds']) := by
  refine acalls_iff.2 fun w g vs hz hr => ?_
  have := acalls_iff.1 c w g vs hz hr
  unfold CallRes at *
  split at this
  · refine this.mono fun e w' ⟨v, he, g', rs, h1, h2, h3⟩ => ?_
    subst h2
    exact ⟨v, he, g', _, h1, rfl, ple_agg h _ _ _ h3⟩
  · obtain ⟨g', rs, h1, h2, h3⟩ := this
    subst h2
    exact ⟨g', _, h1, rfl, ple_agg h _ _ _ h3⟩
  · exact this.elim
end Go.Proofs.Ytbamjcnhmmgnlaa
set_option linter.unusedSimpArgs false
set_option linter.unusedVariables false
namespace Go.Proofs.Ytbamjcnhmmgnlaa
open Go Go.Proofs.Ytbamjcnhmmgnlaa.AL
def lineK : Config := ⟨[[⟨1, 0, 0, 0, 0⟩, ⟨2, 0, 1, 0, 1⟩], [⟨2, 0, 0, 1, 1⟩, ⟨1, 0, 0, 0, 0⟩]], ⟨1, [], []⟩,
  [[[⟨1, ⟨1, 1⟩, 3, 1, 0, ⟨0, 0⟩⟩, ⟨0, ⟨0, 0⟩, 1, 0, 0, ⟨0, 0⟩⟩]], [[⟨1, ⟨1, 1⟩, 2, 1, 0, ⟨0, 0⟩⟩, ⟨0, ⟨0, 0⟩, 1, 0, 0, ⟨0, 0⟩⟩]]]⟩
def lI (n : Int) : Dat := .v (.int .i64 n)
def lU (n : Int) : Dat := .v (.int .u64 n)
def lpRaw (a b c d e : Int) : List Dat := [lI a, lI b, lI c, lI d, lI e]
def lrRaw (k : Int) : List Dat := [lI 1, lU 0, lU 1, lU 0, lU 1, lI k, lI 1, lI 0, lU 0, lU 0, lU 0, lU 0]
def ldRaw : List Dat := [lI 0, lU 0, lU 0, lU 0, lU 0, lI 1, lI 0, lI 0, lU 0, lU 0, lU 0, lU 0]
def ltRaw (k : Int) : List Dat := [.sl 1 1 fun i => [[.sl 12 2 fun i => [lrRaw k, ldRaw].getD i []]].getD i []]
def lineRaw : List Dat := [.sl 1 2 fun i => [[.sl 5 2 fun i => [lpRaw 1 0 0 0 0, lpRaw 2 0 1 0 1].getD i []], [.sl 5 2 fun i => [lpRaw 2 0 0 1 1, lpRaw 1 0 0 0 0].getD i []]].getD i [], lI 1, .v (.slice none 0 0), .v (.slice none 0 0),
  .sl 1 2 fun i => [ltRaw 3, ltRaw 2].getD i []]
theorem lt_two {i : Nat} (h : i < 2) : i = 0 ∨ i = 1 := by omega
theorem lt_one {i : Nat} (h : i < 1) : i = 0 := by omega
theorem lrRaw_eq (k : Int) (i : Nat) (h : i < 2) : [lrRaw k, ldRaw].getD i [] = rowR [⟨1, ⟨1, 1⟩, k, 1, 0, ⟨0, 0⟩⟩, ⟨0, ⟨0, 0⟩, 1, 0, 0, ⟨0, 0⟩⟩] i := by
  rcases lt_two h with rfl | rfl
  · show lrRaw k = ruleD ⟨1, ⟨1, 1⟩, k, 1, 0, ⟨0, 0⟩⟩
    unfold ruleD lrRaw lI lU
    simp only [hi_zero, lo_zero, show hi 1 = 0 by decide, show lo 1 = 1 by decide]
  · show ldRaw = ruleD ⟨0, ⟨0, 0⟩, 1, 0, 0, ⟨0, 0⟩⟩
    unfold ruleD ldRaw lI lU
    simp only [hi_zero, lo_zero]
theorem ltRaw_le (k : Int) : DLes (ltRaw k) [.sl 1 1 (rowRR [[⟨1, ⟨1, 1⟩, k, 1, 0, ⟨0, 0⟩⟩, ⟨0, ⟨0, 0⟩, 1, 0, 0, ⟨0, 0⟩⟩]])] := by
  refine .cons (dle_sl rfl fun i h => ?_) .nil
  obtain rfl := lt_one h
  exact .cons (dle_sl rfl fun i h => .of_eq (lrRaw_eq k i h)) .nil
theorem lineRaw_le : DLes lineRaw (configD lineK) := by
  refine .cons (dle_sl rfl fun i h => ?_) (.cons (dle_refl _) (.cons dle_emp (.cons dle_emp (.cons (dle_sl rfl fun i h => ?_) .nil))))
  · rcases lt_two h with rfl | rfl
    · refine .cons (dle_sl rfl fun i h => ?_) .nil
      rcases lt_two h with rfl | rfl <;> exact .of_eq rfl
    · refine .cons (dle_sl rfl fun i h => ?_) .nil
      rcases lt_two h with rfl | rfl <;> exact .of_eq rfl
  · rcases lt_two h with rfl | rfl
    · exact ltRaw_le 3
    · exact ltRaw_le 2
theorem lineK_small : lineK.small := by
  refine ⟨⟨by decide, ?_⟩, ⟨by decide, by decide⟩, by decide, ?_⟩
  · intro l h
    simp only [lineK, List.mem_cons, List.not_mem_nil, or_false] at h
    rcases h with rfl | rfl <;> decide
  · intro t h
    simp only [lineK, List.mem_cons, List.not_mem_nil, or_false] at h
    rcases h with rfl | rfl <;> refine ⟨by decide, fun l h => ?_⟩ <;> (simp only [List.mem_singleton] at h; subst h; decide)
set_option maxRecDepth 100000 in
set_option maxHeartbeats 2000000 in
theorem line13_c : ACalls Try.prog 56 [] (· = [.agg (configD lineK)]) := by
  refine acalls_agg lineRaw_le ?_
  unfold lineRaw ltRaw lrRaw ldRaw lpRaw lI lU
  refine z9 Try.func56 rfl (by decide +kernel) (by rw [Try.ntmps56]; simp) ?_; rw [Try.ntmps56]; simp only [frOf]
  (repeat (first | refine q0 ?_ | refine z6 rfl ?_ | refine x6 rfl ?_ | refine j5 ?_ | (refine x4 fun K hK => ?_) | (refine j4 (by kernel_rfl) (by kernel_rfl) fun K hK => ?_) | ((first | refine z5 ?_ | refine x5 ?_ | ((first | refine j0 (hK _ ?_) | refine z4 (hK _ _ (z3 (by kernel_rfl)) ?_)); clear hK K)); (first | show AWP _ _ _ _ _ | ((try simp only [q6]); first | show loopQ _ _ _ _ _ _ | show cutQ _ _ _ _ | show AWP _ _ _ _ _))) | ((first | refine j6 [1, 2, 3] rfl ?_ | refine q7 [1, 2, 3] rfl ?_); simp (maxSteps := 2000000) (disch := omega) only [go_sem, seval, hd, cb]; (repeat (first | refine ⟨by omega, ?_⟩ | refine ⟨True.intro, ?_⟩)))))
  refine j7 ⟨_, ?_, rfl⟩; rw [Try.results56]; simp (disch := omega) only [ResVars, ResVar, ptrLoc, go_sem, seval, hd, cb]
end Go.Proofs.Ytbamjcnhmmgnlaa
set_option linter.unusedSimpArgs false
set_option linter.unusedVariables false
namespace Go.Proofs.Ytbamjcnhmmgnlaa
open Go Go.Proofs.Ytbamjcnhmmgnlaa.AL
theorem Of_c (c : Config) (v : Int) (hc : c.small) (hv : -9223372036854775808 ≤ v ∧ v < 9223372036854775808) : ACalls Try.prog 28 [.agg (configD c), .d (.v (.int .i64 v))] (· = [.d (.sl 4 (ofV c v).length (rowC (ofV c v))), .d (.v (.int .i64 (ofE c v)))]) := by
  by_cases h : predE c v = 0
  · exact Of_good c v hc hv h
  · have e : ofE c v = predE c v := by unfold ofE; rw [if_pos h]
    have e2 : ofV c v = [] := by unfold ofV; rw [e, if_neg h]
    rw [e, e2]
    exact Of_bad c v hc hv h
theorem line_ofE : ofE lineK 0 = 0 := by decide +kernel
theorem line_ofV : ofV lineK 0 = [⟨0, 0⟩, ⟨1, 1⟩] := by decide +kernel
theorem line_setsV : setsV lineK 0 = [stampV 0 0] := by decide +kernel
theorem line_predE : predE lineK 0 = 0 := by decide +kernel
set_option maxRecDepth 100000 in
set_option maxHeartbeats 2000000 in
theorem awake13_c : ACalls Try.prog 26 [] (· = [.d (.v (.bool true))]) := by
  have k0 := line13_c
  have k1 := Of_c lineK 0 lineK_small (by omega)
  have k2 := Sets_c lineK 0 lineK_small (by omega)
  rw [line_ofE, line_ofV] at k1
  rw [line_setsV, line_predE] at k2
  generalize stampV 0 0 = k at k2
  have r0 : rowC ([⟨0, 0⟩, ⟨1, 1⟩] : List Cube) 0 = [.v (.int .u64 0), .v (.int .u64 0), .v (.int .u64 0), .v (.int .u64 0)] := by
    show cb ⟨0, 0⟩ = _
    unfold cb; simp only [hi_zero, lo_zero]
  have r1 : rowC ([⟨0, 0⟩, ⟨1, 1⟩] : List Cube) 1 = [.v (.int .u64 0), .v (.int .u64 1), .v (.int .u64 0), .v (.int .u64 1)] := by
    show cb ⟨1, 1⟩ = _
    unfold cb; simp only [show hi 1 = 0 by decide, show lo 1 = 1 by decide]
  simp only [List.length_cons, List.length_nil, Nat.zero_add, Nat.reduceAdd] at k1 k2
  generalize rowC ([⟨0, 0⟩, ⟨1, 1⟩] : List Cube) = f at k1 r0 r1
  refine z9 Try.func26 rfl (by decide +kernel) (by rw [Try.ntmps26]; simp) ?_; rw [Try.ntmps26]; simp only [frOf]
  (repeat (first | refine q0 ?_ | refine z6 rfl ?_ | refine x6 rfl ?_ | refine j5 ?_ | (refine x4 fun K hK => ?_) | (refine j4 (by kernel_rfl) (by kernel_rfl) fun K hK => ?_) | ((first | refine z5 ?_ | refine x5 ?_ | ((first | refine j0 (hK _ ?_) | refine z4 (hK _ _ (z3 (by kernel_rfl)) ?_)); clear hK K)); (first | show AWP _ _ _ _ _ | ((try simp only [q6]); first | show loopQ _ _ _ _ _ _ | show cutQ _ _ _ _ | show AWP _ _ _ _ _))) | ((first | refine j8 rfl rfl rfl ?_ | refine q9 rfl rfl rfl ?_); simp (maxSteps := 2000000) (disch := omega) only [go_sem, seval, hd, cb, ruleD, configD, spotD, topoD, x7, x10, r0, r1, eqI]; (first | refine ⟨_, k0, ?_⟩ | refine ⟨_, k1, ?_⟩ | refine ⟨_, k2, ?_⟩)) | ((first | refine j6 [1] rfl ?_ | refine q7 [1] rfl ?_); simp (maxSteps := 2000000) (disch := omega) only [go_sem, seval, hd, cb, ruleD, configD, spotD, topoD, x7, x10, r0, r1, eqI]; (repeat (first | refine ⟨by omega, ?_⟩ | refine ⟨True.intro, ?_⟩)))))
  refine j7 ⟨_, ?_, rfl⟩; rw [Try.results26]; simp (disch := omega) only [ResVars, ResVar, ptrLoc, go_sem, seval, hd, cb, ruleD, configD, spotD, topoD, x7, x10, r0, r1, eqI]
def predsSI (L : List Cube) (i : Fin (L.length + 1)) : ASt :=
  ⟨[(9, .p (.d (.v (.int .i64 (i.val : Int))))), (8, .p (.d (.sl 4 L.length (rowC L)))), (5, .p (.d (.sl 4 L.length (rowC L))))], []⟩
set_option maxRecDepth 100000 in
set_option maxHeartbeats 2000000 in
theorem PredsSets_c (c : Config) (v : Int) (hc : c.small) (hv : -9223372036854775808 ≤ v ∧ v < 9223372036854775808) : ACalls Try.prog 7 [.agg (configD c), .d (.v (.int .i64 v))] (· = [.d (.v (.bool true))]) := by
  have st := Sets_c c v hc hv
  have wr := wrong_c c v hc
  by_cases h : predE c v = 0
  · obtain ⟨h0, h1, h2⟩ := predE_zero h
    obtain ⟨n, rfl⟩ : ∃ n : Nat, v = n := ⟨v.toNat, by omega⟩
    have sr := setsR_c c n hc h
    unfold setsV at st
    rw [h, if_pos rfl] at st
    rw [h] at wr
    have hSl : (setsL c n).length ≤ 1000 := by
      have hb := sound_limits h0
      have h1 := foldl_len (stampF c n) (fun L a => addC_len L _) (edgesT c.tp) []
      have h2 := fold3_len setF setF_len c.tb (setsE c n)
      unfold setsL
      unfold setsE at h2 ⊢
      simp at h1; omega
    generalize setsL c n = L at st sr hSl
    have q : ((L.length : Int) != (L.length : Int)) = false := by simp
    refine z9 Try.func7 rfl (by decide +kernel) (by rw [Try.ntmps7]; simp) ?_; rw [Try.ntmps7]; simp only [frOf]
    (repeat (first | refine q0 ?_ | refine z6 rfl ?_ | refine x6 rfl ?_ | refine j5 ?_ | (refine x4 fun K hK => ?_) | (refine j4 (by kernel_rfl) (by kernel_rfl) fun K hK => ?_) | ((first | refine z5 ?_ | refine x5 ?_ | ((first | refine j0 (hK _ ?_) | refine z4 (hK _ _ (z3 (by kernel_rfl)) ?_)); clear hK K)); (first | show AWP _ _ _ _ _ | ((try simp only [q6]); first | show loopQ _ _ _ _ _ _ | show cutQ _ _ _ _ | show AWP _ _ _ _ _))) | ((first | refine j8 rfl rfl rfl ?_ | refine q9 rfl rfl rfl ?_); simp (maxSteps := 2000000) (disch := omega) only [go_sem, seval, hd, cb, ruleD, configD, spotD, topoD, x7, x10, q]; (first | refine ⟨_, st, ?_⟩ | refine ⟨_, wr, ?_⟩ | refine ⟨_, sr, ?_⟩)) | ((first | refine j6 [] rfl ?_ | refine q7 [] rfl ?_); simp (maxSteps := 2000000) (disch := omega) only [go_sem, seval, hd, cb, ruleD, configD, spotD, topoD, x7, x10, q]; (repeat (first | refine ⟨by omega, ?_⟩ | refine ⟨True.intro, ?_⟩)))))
    refine awp_loop (predsSI L) (fun s => L.length - s.val) ⟨0, by omega⟩ ?_ (fun s => ?_)
    · unfold predsSI
      refine Weak.list ?_ ?_; (all_goals simp (disch := omega) only [AllF, AllL, j9, q10, x9, exists_eq_left', Option.some.injEq, go_sem, seval, hd, cb, ruleD, configD, spotD, topoD, x7, x10, q]); (all_goals (repeat' (with_reducible apply And.intro))); (all_goals try (first | exact z7 rfl | (refine z10 ?_; omega) | (refine z7 ?_; simp; done)))
    obtain ⟨i, hlt⟩ := s
    unfold predsSI
    simp only []
    by_cases hn : i < L.length
    · have r1 := rowC_at L i
      generalize L.getD i ⟨0, 0⟩ = k at r1
      have q2 : eqI [hi k.v, lo k.v, hi k.c, lo k.c] [hi k.v, lo k.v, hi k.c, lo k.c] = true := eqI_rfl _
      (repeat (first | refine q0 ?_ | refine z6 rfl ?_ | refine x6 rfl ?_ | refine j5 ?_ | (refine x4 fun K hK => ?_) | (refine j4 (by kernel_rfl) (by kernel_rfl) fun K hK => ?_) | ((first | refine z5 ?_ | refine x5 ?_ | ((first | refine j0 (hK _ ?_) | refine z4 (hK _ _ (z3 (by kernel_rfl)) ?_)); clear hK K)); (first | show AWP _ _ _ _ _ | ((try simp only [q6]); first | show loopQ _ _ _ _ _ _ | show cutQ _ _ _ _ | show AWP _ _ _ _ _))) | ((first | refine j6 [] rfl ?_ | refine q7 [] rfl ?_); simp (maxSteps := 2000000) (disch := omega) only [go_sem, seval, hd, cb, ruleD, configD, spotD, topoD, x7, x10, r1, q2]; (repeat (first | refine ⟨by omega, ?_⟩ | refine ⟨True.intro, ?_⟩)))))
      refine ⟨⟨i + 1, by omega⟩, by simp only []; omega, ?_⟩
      refine Weak.list ?_ ?_; (all_goals simp (disch := omega) only [AllF, AllL, j9, q10, x9, exists_eq_left', Option.some.injEq, go_sem, seval, hd, cb, ruleD, configD, spotD, topoD, x7, x10, r1, q2]); (all_goals (repeat' (with_reducible apply And.intro))); (all_goals try (first | exact z7 rfl | (refine z10 ?_; omega) | (refine z7 ?_; simp; done)))
    · have : i = L.length := by omega
      subst this
      (repeat (first | refine q0 ?_ | refine z6 rfl ?_ | refine x6 rfl ?_ | refine j5 ?_ | (refine x4 fun K hK => ?_) | (refine j4 (by kernel_rfl) (by kernel_rfl) fun K hK => ?_) | ((first | refine z5 ?_ | refine x5 ?_ | ((first | refine j0 (hK _ ?_) | refine z4 (hK _ _ (z3 (by kernel_rfl)) ?_)); clear hK K)); (first | show AWP _ _ _ _ _ | ((try simp only [q6]); first | show loopQ _ _ _ _ _ _ | show cutQ _ _ _ _ | show AWP _ _ _ _ _))) | ((first | refine j8 rfl rfl rfl ?_ | refine q9 rfl rfl rfl ?_); simp (maxSteps := 2000000) (disch := omega) only [go_sem, seval, hd, cb, ruleD, configD, spotD, topoD, x7, x10]; (first | refine ⟨_, awake13_c, ?_⟩)) | ((first | refine j6 [] rfl ?_ | refine q7 [] rfl ?_); simp (maxSteps := 2000000) (disch := omega) only [go_sem, seval, hd, cb, ruleD, configD, spotD, topoD, x7, x10]; (repeat (first | refine ⟨by omega, ?_⟩ | refine ⟨True.intro, ?_⟩)))))
      refine j7 ⟨_, ?_, rfl⟩; rw [Try.results7]; simp (disch := omega) only [ResVars, ResVar, ptrLoc, go_sem, seval, hd, cb, ruleD, configD, spotD, topoD, x7, x10]
  · have q : (predE c v != 0) = true := ine_tt h
    have q2 : (predE c v == predE c v) = true := beq_self_eq_true _
    unfold setsV at st
    rw [if_neg h] at st
    generalize predE c v = e at *
    refine z9 Try.func7 rfl (by decide +kernel) (by rw [Try.ntmps7]; simp) ?_; rw [Try.ntmps7]; simp only [frOf]
    (repeat (first | refine q0 ?_ | refine z6 rfl ?_ | refine x6 rfl ?_ | refine j5 ?_ | (refine x4 fun K hK => ?_) | (refine j4 (by kernel_rfl) (by kernel_rfl) fun K hK => ?_) | ((first | refine z5 ?_ | refine x5 ?_ | ((first | refine j0 (hK _ ?_) | refine z4 (hK _ _ (z3 (by kernel_rfl)) ?_)); clear hK K)); (first | show AWP _ _ _ _ _ | ((try simp only [q6]); first | show loopQ _ _ _ _ _ _ | show cutQ _ _ _ _ | show AWP _ _ _ _ _))) | ((first | refine j8 rfl rfl rfl ?_ | refine q9 rfl rfl rfl ?_); simp (maxSteps := 2000000) (disch := omega) only [go_sem, seval, hd, cb, ruleD, configD, spotD, topoD, x7, x10, q, q2]; (first | refine ⟨_, st, ?_⟩ | refine ⟨_, wr, ?_⟩ | refine ⟨_, awake13_c, ?_⟩)) | ((first | refine j6 [] rfl ?_ | refine q7 [] rfl ?_); simp (maxSteps := 2000000) (disch := omega) only [go_sem, seval, hd, cb, ruleD, configD, spotD, topoD, x7, x10, q, q2]; (repeat (first | refine ⟨by omega, ?_⟩ | refine ⟨True.intro, ?_⟩)))))
    refine j7 ⟨_, ?_, rfl⟩; rw [Try.results7]; simp (disch := omega) only [ResVars, ResVar, ptrLoc, go_sem, seval, hd, cb, ruleD, configD, spotD, topoD, x7, x10, q, q2]
end Go.Proofs.Ytbamjcnhmmgnlaa
