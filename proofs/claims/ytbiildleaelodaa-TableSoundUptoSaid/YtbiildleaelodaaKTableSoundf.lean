/- Part 6 of a proof: lemmas beneath the theorem that the last text bears. Conditions: none. -/
import Derived.Test.YtbiildleaelodaaKTableSounde
set_option linter.unusedSimpArgs false
set_option linter.unusedVariables false
namespace Go.Proofs.Ytbiildleaelodaa
open Go.Proofs.Ytbiildleaelodaa.AL
def woGo (l : List Rule) : List Nat → List Cube → List Cube × Int
  | [], p => (p, 0)
  | n :: r, p => if (lessP [(l.getD n r0).mt] p).2 = 0 then woGo l r (lessP [(l.getD n r0).mt] p).1 else ([], (lessP [(l.getD n r0).mt] p).2)
def withoutR (l : List Rule) (ids : List Nat) (p : List Cube) : List Cube × Int := if soundL l then woGo l ids p else ([], 2)
theorem soundL_at {l : List Rule} (h : soundL l = true) {n : Nat} (hn : n < l.length) : (l.getD n r0).mt.sound = true := by
  unfold soundL at h
  rw [List.all_eq_true] at h
  exact h _ (getD_in hn r0)
theorem lessPR_one {p : List Cube} {c : Cube} (hp : ∀ k ∈ p, k.sound = true) (hl : p.length ≤ 200) (hc : c.sound = true) : lessPR p [c] = lessP [c] p := by
  unfold lessPR
  have h1 : soundP p = true := by
    unfold soundP; rw [Bool.and_eq_true, List.all_eq_true]; exact ⟨by simpa using hl, hp⟩
  have h2 : soundP [c] = true := by unfold soundP; simp [hc]
  rw [h1, h2]; rfl
theorem LessP1_c (p : List Cube) (c : Cube) (hp : ∀ k ∈ p, k.sound = true) (hl : p.length ≤ 200) (hc : c.sound = true) : ACalls Try.prog 68 [.d (.sl 4 p.length (rowC p)), .d (.sl 4 1 fun i => [cb c].getD i [])]
    (· = [.d (.sl 4 (lessP [c] p).1.length (rowC (lessP [c] p).1)), .d (.v (.int .i64 (lessP [c] p).2))]) := by
  have k := LessP_c p [c] (by omega) (by simp)
  rw [lessPR_one hp hl hc] at k
  refine acalls_le (.cons (ple_refl _) (.cons (ple_sl rfl fun i hi => ?_) .nil)) k
  have : i = 0 := by simp at hi; exact hi
  subst this; rfl
theorem less1_keeps {p : List Cube} {c : Cube} (hp : ∀ k ∈ p, k.sound = true) (hc : c.sound = true) (h : (lessP [c] p).2 = 0) : ∀ k ∈ (lessP [c] p).1, k.sound = true :=
  (less_has 0 [c] p (by simp [hc]) hp h).2
def woI (l : List Rule) (ids : List Nat) (R : List Cube × Int) (s : {s : Nat × List Cube // s.1 ≤ ids.length ∧ s.2.length ≤ 200 ∧ (∀ k ∈ s.2, k.sound = true) ∧ woGo l (ids.drop s.1) s.2 = R}) : ASt :=
  ⟨[(16, .p (.d (.v (.int .i64 (s.val.1 : Int))))), (15, .p (.d (.v (.int .i64 (ids.length : Int))))), (14, .p (.d (.sl 1 ids.length (rowI ids)))), (2, .p (.d (.sl 4 s.val.2.length (rowC s.val.2)))), (0, .p (.d (.sl 12 l.length (rowR l))))], []⟩
set_option maxRecDepth 100000 in
set_option maxHeartbeats 4000000 in
theorem Without_c (l : List Rule) (ids : List Nat) (p : List Cube) (hl : l.length ≤ 1099511627776) (hi : ∀ n ∈ ids, n < l.length) (hil : ids.length ≤ 1099511627776) (hp : p.length ≤ 200) (hps : soundL l = true → ∀ k ∈ p, k.sound = true) :
    ACalls Try.prog 48 [.d (.sl 12 l.length (rowR l)), .d (.sl 1 ids.length (rowI ids)), .d (.sl 4 p.length (rowC p))] (· = [.d (.sl 4 (withoutR l ids p).1.length (rowC (withoutR l ids p).1)), .d (.v (.int .i64 (withoutR l ids p).2))]) := by
  have ks := soundL_c l hl
  unfold withoutR
  cases hs : soundL l
  · rw [hs] at ks
    simp only [Bool.false_eq_true, if_false]
    refine q11 Try.func48 rfl (by decide +kernel) (by rw [Try.ntmps48]; simp) ?_; rw [Try.ntmps48]; simp only [frOf]
    (repeat (first | refine z1 ?_ | refine j6 rfl ?_ | refine q7 rfl ?_ | refine z6 ?_ | (refine x3 fun K hK => ?_) | (refine x4 (by kernel_rfl) (by kernel_rfl) fun K hK => ?_) | (refine j5 ?_; (first | show AWP _ _ _ _ _ | show loopQ _ _ _ _ _ _ | show cutQ _ _ _ _ | (simp only [j0]; first | show AWP _ _ _ _ _ | show loopQ _ _ _ _ _ _ | show cutQ _ _ _ _))) | (refine q6 ?_; (first | show AWP _ _ _ _ _ | show loopQ _ _ _ _ _ _ | show cutQ _ _ _ _ | (simp only [j0]; first | show AWP _ _ _ _ _ | show loopQ _ _ _ _ _ _ | show cutQ _ _ _ _))) | ((first | refine z2 (hK _ ?_) | refine q5 (hK _ _ (j4 (by kernel_rfl)) ?_)); clear hK K; (first | show AWP _ _ _ _ _ | show loopQ _ _ _ _ _ _ | show cutQ _ _ _ _ | (simp only [j0]; first | show AWP _ _ _ _ _ | show loopQ _ _ _ _ _ _ | show cutQ _ _ _ _))) | ((first | refine x9 rfl rfl rfl ?_ | refine j9 rfl rfl rfl ?_); simp (maxSteps := 2000000) (disch := omega) only [go_sem, ↓reduceIte, reduceCtorEq, Nat.reduceLT, Nat.reducePow, Nat.reduceLeDiff, Nat.reduceAdd, Nat.reduceMul, Nat.reduceSub, Nat.reduceEqDiff, Nat.reduceBEq, Int.reduceToNat, Int.reduceBEq, Int.reduceBNe, hd, cb, ruleD]; (first | refine ⟨_, ks, ?_⟩)) | ((first | refine z7 [] rfl ?_ | refine x7 [] rfl ?_); simp (maxSteps := 2000000) (disch := omega) only [go_sem, ↓reduceIte, reduceCtorEq, Nat.reduceLT, Nat.reducePow, Nat.reduceLeDiff, Nat.reduceAdd, Nat.reduceMul, Nat.reduceSub, Nat.reduceEqDiff, Nat.reduceBEq, Int.reduceToNat, Int.reduceBEq, Int.reduceBNe, hd, cb, ruleD]; (repeat (first | refine ⟨by omega, ?_⟩ | refine ⟨True.intro, ?_⟩)))))
    refine awp_slot 6 _ (.p (.d (.sl 4 0 (rowC [])))) rfl (le_nil _ _ _ rfl) ?_
    refine q9 ⟨_, ?_, rfl⟩; rw [Try.results48]; simp (disch := omega) only [ResVars, ResVar, ptrLoc, go_sem, ↓reduceIte, reduceCtorEq, Nat.reduceLT, Nat.reducePow, Nat.reduceLeDiff, Nat.reduceAdd, Nat.reduceMul, Nat.reduceSub, Nat.reduceEqDiff, Nat.reduceBEq, Int.reduceToNat, Int.reduceBEq, Int.reduceBNe, hd, cb, ruleD]
  · rw [hs] at ks
    simp only [if_true]
    obtain ⟨R, hR⟩ : ∃ R, woGo l ids p = R := ⟨_, rfl⟩
    rw [hR]
    refine q11 Try.func48 rfl (by decide +kernel) (by rw [Try.ntmps48]; simp) ?_; rw [Try.ntmps48]; simp only [frOf]
    (repeat (first | refine z1 ?_ | refine j6 rfl ?_ | refine q7 rfl ?_ | refine z6 ?_ | (refine x3 fun K hK => ?_) | (refine x4 (by kernel_rfl) (by kernel_rfl) fun K hK => ?_) | (refine j5 ?_; (first | show AWP _ _ _ _ _ | show loopQ _ _ _ _ _ _ | show cutQ _ _ _ _ | (simp only [j0]; first | show AWP _ _ _ _ _ | show loopQ _ _ _ _ _ _ | show cutQ _ _ _ _))) | (refine q6 ?_; (first | show AWP _ _ _ _ _ | show loopQ _ _ _ _ _ _ | show cutQ _ _ _ _ | (simp only [j0]; first | show AWP _ _ _ _ _ | show loopQ _ _ _ _ _ _ | show cutQ _ _ _ _))) | ((first | refine z2 (hK _ ?_) | refine q5 (hK _ _ (j4 (by kernel_rfl)) ?_)); clear hK K; (first | show AWP _ _ _ _ _ | show loopQ _ _ _ _ _ _ | show cutQ _ _ _ _ | (simp only [j0]; first | show AWP _ _ _ _ _ | show loopQ _ _ _ _ _ _ | show cutQ _ _ _ _))) | ((first | refine x9 rfl rfl rfl ?_ | refine j9 rfl rfl rfl ?_); simp (maxSteps := 2000000) (disch := omega) only [go_sem, ↓reduceIte, reduceCtorEq, Nat.reduceLT, Nat.reducePow, Nat.reduceLeDiff, Nat.reduceAdd, Nat.reduceMul, Nat.reduceSub, Nat.reduceEqDiff, Nat.reduceBEq, Int.reduceToNat, Int.reduceBEq, Int.reduceBNe, hd, cb, ruleD]; (first | refine ⟨_, ks, ?_⟩)) | ((first | refine z7 [] rfl ?_ | refine x7 [] rfl ?_); simp (maxSteps := 2000000) (disch := omega) only [go_sem, ↓reduceIte, reduceCtorEq, Nat.reduceLT, Nat.reducePow, Nat.reduceLeDiff, Nat.reduceAdd, Nat.reduceMul, Nat.reduceSub, Nat.reduceEqDiff, Nat.reduceBEq, Int.reduceToNat, Int.reduceBEq, Int.reduceBNe, hd, cb, ruleD]; (repeat (first | refine ⟨by omega, ?_⟩ | refine ⟨True.intro, ?_⟩)))))
    refine awp_loop (woI l ids R) (fun s => ids.length - s.val.1) ⟨(0, p), by simp, hp, hps hs, by rw [List.drop_zero]; exact hR⟩ ?_ (fun s => ?_)
    · unfold woI
      refine Weak.list ?_ ?_; (all_goals simp (disch := omega) only [AllF, AllL, z10, x10, q10, exists_eq_left', Option.some.injEq, go_sem, ↓reduceIte, reduceCtorEq, Nat.reduceLT, Nat.reducePow, Nat.reduceLeDiff, Nat.reduceAdd, Nat.reduceMul, Nat.reduceSub, Nat.reduceEqDiff, Nat.reduceBEq, Int.reduceToNat, Int.reduceBEq, Int.reduceBNe, hd, cb, ruleD]); (all_goals (repeat' (with_reducible apply And.intro))); (all_goals try (first | exact x6 rfl | (refine j10 ?_; omega) | (refine x6 ?_; simp; done)))
    obtain ⟨⟨i, q⟩, h1, h2, h3, he⟩ := s
    unfold woI
    simp only [] at h1 h2 h3 he
    by_cases hn : i < ids.length
    · rw [drop_getD ids i 0 hn] at he
      have r0' := rowI_at ids i
      have hk := hi _ (getD_in hn 0)
      generalize ids.getD i 0 = k at he r0' hk
      have r1 := rowR_at l k
      have hms := soundL_at hs hk
      unfold woGo at he
      generalize l.getD k r0 = x at he r1 hms
      have kl := LessP1_c q x.mt h3 h2 hms
      have kk := less1_keeps (p := q) h3 hms
      have kn := lessP_len [x.mt] q h2
      have ko := lessP_or [x.mt] q
      generalize lessP [x.mt] q = u at he kl kk kn ko
      obtain ⟨u, e⟩ := u
      simp only [] at he kl kk kn ko
      unfold cb at kl
      rcases ko with rfl | ⟨rfl, rfl⟩
      · rw [if_pos rfl] at he
        (repeat (first | refine z1 ?_ | refine j6 rfl ?_ | refine q7 rfl ?_ | refine z6 ?_ | (refine x3 fun K hK => ?_) | (refine x4 (by kernel_rfl) (by kernel_rfl) fun K hK => ?_) | (refine j5 ?_; (first | show AWP _ _ _ _ _ | show loopQ _ _ _ _ _ _ | show cutQ _ _ _ _ | (simp only [j0]; first | show AWP _ _ _ _ _ | show loopQ _ _ _ _ _ _ | show cutQ _ _ _ _))) | (refine q6 ?_; (first | show AWP _ _ _ _ _ | show loopQ _ _ _ _ _ _ | show cutQ _ _ _ _ | (simp only [j0]; first | show AWP _ _ _ _ _ | show loopQ _ _ _ _ _ _ | show cutQ _ _ _ _))) | ((first | refine z2 (hK _ ?_) | refine q5 (hK _ _ (j4 (by kernel_rfl)) ?_)); clear hK K; (first | show AWP _ _ _ _ _ | show loopQ _ _ _ _ _ _ | show cutQ _ _ _ _ | (simp only [j0]; first | show AWP _ _ _ _ _ | show loopQ _ _ _ _ _ _ | show cutQ _ _ _ _))) | ((first | refine x9 rfl rfl rfl ?_ | refine j9 rfl rfl rfl ?_); simp (maxSteps := 2000000) (disch := omega) only [go_sem, ↓reduceIte, reduceCtorEq, Nat.reduceLT, Nat.reducePow, Nat.reduceLeDiff, Nat.reduceAdd, Nat.reduceMul, Nat.reduceSub, Nat.reduceEqDiff, Nat.reduceBEq, Int.reduceToNat, Int.reduceBEq, Int.reduceBNe, hd, cb, ruleD, r0', r1]; (first | refine ⟨_, kl, ?_⟩)) | ((first | refine z7 [] rfl ?_ | refine x7 [] rfl ?_); simp (maxSteps := 2000000) (disch := omega) only [go_sem, ↓reduceIte, reduceCtorEq, Nat.reduceLT, Nat.reducePow, Nat.reduceLeDiff, Nat.reduceAdd, Nat.reduceMul, Nat.reduceSub, Nat.reduceEqDiff, Nat.reduceBEq, Int.reduceToNat, Int.reduceBEq, Int.reduceBNe, hd, cb, ruleD, r0', r1]; (repeat (first | refine ⟨by omega, ?_⟩ | refine ⟨True.intro, ?_⟩)))))
        refine ⟨⟨(i + 1, u), by simp only []; omega, kn, kk rfl, he⟩, by simp only []; omega, ?_⟩
        refine Weak.list ?_ ?_; (all_goals simp (disch := omega) only [AllF, AllL, z10, x10, q10, exists_eq_left', Option.some.injEq, go_sem, ↓reduceIte, reduceCtorEq, Nat.reduceLT, Nat.reducePow, Nat.reduceLeDiff, Nat.reduceAdd, Nat.reduceMul, Nat.reduceSub, Nat.reduceEqDiff, Nat.reduceBEq, Int.reduceToNat, Int.reduceBEq, Int.reduceBNe, hd, cb, ruleD, r0', r1]); (all_goals (repeat' (with_reducible apply And.intro))); (all_goals try (first | exact x6 rfl | (refine j10 ?_; omega) | (refine x6 ?_; simp; done)))
      · rw [if_neg (by decide)] at he
        subst he
        (repeat (first | refine z1 ?_ | refine j6 rfl ?_ | refine q7 rfl ?_ | refine z6 ?_ | (refine x3 fun K hK => ?_) | (refine x4 (by kernel_rfl) (by kernel_rfl) fun K hK => ?_) | (refine j5 ?_; (first | show AWP _ _ _ _ _ | show loopQ _ _ _ _ _ _ | show cutQ _ _ _ _ | (simp only [j0]; first | show AWP _ _ _ _ _ | show loopQ _ _ _ _ _ _ | show cutQ _ _ _ _))) | (refine q6 ?_; (first | show AWP _ _ _ _ _ | show loopQ _ _ _ _ _ _ | show cutQ _ _ _ _ | (simp only [j0]; first | show AWP _ _ _ _ _ | show loopQ _ _ _ _ _ _ | show cutQ _ _ _ _))) | ((first | refine z2 (hK _ ?_) | refine q5 (hK _ _ (j4 (by kernel_rfl)) ?_)); clear hK K; (first | show AWP _ _ _ _ _ | show loopQ _ _ _ _ _ _ | show cutQ _ _ _ _ | (simp only [j0]; first | show AWP _ _ _ _ _ | show loopQ _ _ _ _ _ _ | show cutQ _ _ _ _))) | ((first | refine x9 rfl rfl rfl ?_ | refine j9 rfl rfl rfl ?_); simp (maxSteps := 2000000) (disch := omega) only [go_sem, ↓reduceIte, reduceCtorEq, Nat.reduceLT, Nat.reducePow, Nat.reduceLeDiff, Nat.reduceAdd, Nat.reduceMul, Nat.reduceSub, Nat.reduceEqDiff, Nat.reduceBEq, Int.reduceToNat, Int.reduceBEq, Int.reduceBNe, hd, cb, ruleD, r0', r1]; (first | refine ⟨_, kl, ?_⟩)) | ((first | refine z7 [] rfl ?_ | refine x7 [] rfl ?_); simp (maxSteps := 2000000) (disch := omega) only [go_sem, ↓reduceIte, reduceCtorEq, Nat.reduceLT, Nat.reducePow, Nat.reduceLeDiff, Nat.reduceAdd, Nat.reduceMul, Nat.reduceSub, Nat.reduceEqDiff, Nat.reduceBEq, Int.reduceToNat, Int.reduceBEq, Int.reduceBNe, hd, cb, ruleD, r0', r1]; (repeat (first | refine ⟨by omega, ?_⟩ | refine ⟨True.intro, ?_⟩)))))
        refine awp_slot 6 _ (.p (.d (.sl 4 0 (rowC [])))) rfl (le_nil _ _ _ rfl) ?_
        refine q9 ⟨_, ?_, rfl⟩; rw [Try.results48]; simp (disch := omega) only [ResVars, ResVar, ptrLoc, go_sem, ↓reduceIte, reduceCtorEq, Nat.reduceLT, Nat.reducePow, Nat.reduceLeDiff, Nat.reduceAdd, Nat.reduceMul, Nat.reduceSub, Nat.reduceEqDiff, Nat.reduceBEq, Int.reduceToNat, Int.reduceBEq, Int.reduceBNe, hd, cb, ruleD, r0', r1]
    · have : i = ids.length := by omega
      subst this
      rw [List.drop_length] at he
      unfold woGo at he
      subst he
      (repeat (first | refine z1 ?_ | refine j6 rfl ?_ | refine q7 rfl ?_ | refine z6 ?_ | (refine x3 fun K hK => ?_) | (refine x4 (by kernel_rfl) (by kernel_rfl) fun K hK => ?_) | (refine j5 ?_; (first | show AWP _ _ _ _ _ | show loopQ _ _ _ _ _ _ | show cutQ _ _ _ _ | (simp only [j0]; first | show AWP _ _ _ _ _ | show loopQ _ _ _ _ _ _ | show cutQ _ _ _ _))) | (refine q6 ?_; (first | show AWP _ _ _ _ _ | show loopQ _ _ _ _ _ _ | show cutQ _ _ _ _ | (simp only [j0]; first | show AWP _ _ _ _ _ | show loopQ _ _ _ _ _ _ | show cutQ _ _ _ _))) | ((first | refine z2 (hK _ ?_) | refine q5 (hK _ _ (j4 (by kernel_rfl)) ?_)); clear hK K; (first | show AWP _ _ _ _ _ | show loopQ _ _ _ _ _ _ | show cutQ _ _ _ _ | (simp only [j0]; first | show AWP _ _ _ _ _ | show loopQ _ _ _ _ _ _ | show cutQ _ _ _ _))) | ((first | refine z7 [] rfl ?_ | refine x7 [] rfl ?_); simp (maxSteps := 2000000) (disch := omega) only [go_sem, ↓reduceIte, reduceCtorEq, Nat.reduceLT, Nat.reducePow, Nat.reduceLeDiff, Nat.reduceAdd, Nat.reduceMul, Nat.reduceSub, Nat.reduceEqDiff, Nat.reduceBEq, Int.reduceToNat, Int.reduceBEq, Int.reduceBNe, hd, cb, ruleD]; (repeat (first | refine ⟨by omega, ?_⟩ | refine ⟨True.intro, ?_⟩)))))
      refine q9 ⟨_, ?_, rfl⟩; rw [Try.results48]; simp (disch := omega) only [ResVars, ResVar, ptrLoc, go_sem, ↓reduceIte, reduceCtorEq, Nat.reduceLT, Nat.reducePow, Nat.reduceLeDiff, Nat.reduceAdd, Nat.reduceMul, Nat.reduceSub, Nat.reduceEqDiff, Nat.reduceBEq, Int.reduceToNat, Int.reduceBEq, Int.reduceBNe, hd, cb, ruleD]
theorem IndexO_c (o : List Nat) (n : Nat) (hn : n ∈ o) (hl : o.length ≤ 1099511627776) : ACalls Try.prog 49 [.d (.sl 1 o.length (rowI o)), .d (.v (.int .i64 (n : Int)))] (· = [.d (.v (.int .i64 (o.idxOf n : Int)))]) := by
  have hlt := List.idxOf_lt_length_of_mem hn
  have hge := List.getElem_idxOf hlt
  have hno : ∀ i, i < o.idxOf n → o.getD i 0 ≠ n := fun i hi e => by
    rw [List.getD_eq_getElem?_getD, List.getElem?_eq_getElem (by omega)] at e
    have h2 := List.not_of_lt_findIdx (p := (· == n)) hi
    simp at e h2
    exact h2 e
  generalize o.idxOf n = k at *
  refine q11 Try.func49 rfl (by decide +kernel) (by rw [Try.ntmps49]; simp) ?_; rw [Try.ntmps49]; simp only [frOf]
  (repeat (first | refine z1 ?_ | refine j6 rfl ?_ | refine q7 rfl ?_ | refine z6 ?_ | (refine x3 fun K hK => ?_) | (refine x4 (by kernel_rfl) (by kernel_rfl) fun K hK => ?_) | (refine j5 ?_; (first | show AWP _ _ _ _ _ | show loopQ _ _ _ _ _ _ | show cutQ _ _ _ _ | (simp only [j0]; first | show AWP _ _ _ _ _ | show loopQ _ _ _ _ _ _ | show cutQ _ _ _ _))) | (refine q6 ?_; (first | show AWP _ _ _ _ _ | show loopQ _ _ _ _ _ _ | show cutQ _ _ _ _ | (simp only [j0]; first | show AWP _ _ _ _ _ | show loopQ _ _ _ _ _ _ | show cutQ _ _ _ _))) | ((first | refine z2 (hK _ ?_) | refine q5 (hK _ _ (j4 (by kernel_rfl)) ?_)); clear hK K; (first | show AWP _ _ _ _ _ | show loopQ _ _ _ _ _ _ | show cutQ _ _ _ _ | (simp only [j0]; first | show AWP _ _ _ _ _ | show loopQ _ _ _ _ _ _ | show cutQ _ _ _ _))) | ((first | refine z7 [] rfl ?_ | refine x7 [] rfl ?_); simp (maxSteps := 2000000) (disch := omega) only [go_sem, ↓reduceIte, reduceCtorEq, Nat.reduceLT, Nat.reducePow, Nat.reduceLeDiff, Nat.reduceAdd, Nat.reduceMul, Nat.reduceSub, Nat.reduceEqDiff, Nat.reduceBEq, Int.reduceToNat, Int.reduceBEq, Int.reduceBNe, hd, cb, ruleD]; (repeat (first | refine ⟨by omega, ?_⟩ | refine ⟨True.intro, ?_⟩)))))
  refine awp_loop (fun i : {i : Nat // i ≤ k} => ⟨[(8, .p (.d (.v (.int .i64 (i.val : Int))))), (7, .p (.d (.v (.int .i64 (o.length : Int))))), (1, .p (.d (.v (.int .i64 (n : Int))))), (0, .p (.d (.sl 1 o.length (rowI o))))], []⟩) (fun i => k - i.val) ⟨0, by omega⟩ ?_ (fun s => ?_)
  · refine Weak.list ?_ ?_; (all_goals simp (disch := omega) only [AllF, AllL, z10, x10, q10, exists_eq_left', Option.some.injEq, go_sem, ↓reduceIte, reduceCtorEq, Nat.reduceLT, Nat.reducePow, Nat.reduceLeDiff, Nat.reduceAdd, Nat.reduceMul, Nat.reduceSub, Nat.reduceEqDiff, Nat.reduceBEq, Int.reduceToNat, Int.reduceBEq, Int.reduceBNe, hd, cb, ruleD]); (all_goals (repeat' (with_reducible apply And.intro))); (all_goals try (first | exact x6 rfl | (refine j10 ?_; omega) | (refine x6 ?_; simp; done)))
  obtain ⟨i, hi⟩ := s
  have r1 := rowI_at o i
  simp only []
  by_cases h : i < k
  · have hne := hno i h
    generalize o.getD i 0 = m at r1 hne
    have q : ((n : Int) == (m : Int)) = false := ieq_ff (by omega)
    (repeat (first | refine z1 ?_ | refine j6 rfl ?_ | refine q7 rfl ?_ | refine z6 ?_ | (refine x3 fun K hK => ?_) | (refine x4 (by kernel_rfl) (by kernel_rfl) fun K hK => ?_) | (refine j5 ?_; (first | show AWP _ _ _ _ _ | show loopQ _ _ _ _ _ _ | show cutQ _ _ _ _ | (simp only [j0]; first | show AWP _ _ _ _ _ | show loopQ _ _ _ _ _ _ | show cutQ _ _ _ _))) | (refine q6 ?_; (first | show AWP _ _ _ _ _ | show loopQ _ _ _ _ _ _ | show cutQ _ _ _ _ | (simp only [j0]; first | show AWP _ _ _ _ _ | show loopQ _ _ _ _ _ _ | show cutQ _ _ _ _))) | ((first | refine z2 (hK _ ?_) | refine q5 (hK _ _ (j4 (by kernel_rfl)) ?_)); clear hK K; (first | show AWP _ _ _ _ _ | show loopQ _ _ _ _ _ _ | show cutQ _ _ _ _ | (simp only [j0]; first | show AWP _ _ _ _ _ | show loopQ _ _ _ _ _ _ | show cutQ _ _ _ _))) | ((first | refine z7 [] rfl ?_ | refine x7 [] rfl ?_); simp (maxSteps := 2000000) (disch := omega) only [go_sem, ↓reduceIte, reduceCtorEq, Nat.reduceLT, Nat.reducePow, Nat.reduceLeDiff, Nat.reduceAdd, Nat.reduceMul, Nat.reduceSub, Nat.reduceEqDiff, Nat.reduceBEq, Int.reduceToNat, Int.reduceBEq, Int.reduceBNe, hd, cb, ruleD, r1, q]; (repeat (first | refine ⟨by omega, ?_⟩ | refine ⟨True.intro, ?_⟩)))))
    refine ⟨⟨i + 1, by omega⟩, by simp only []; omega, ?_⟩
    refine Weak.list ?_ ?_; (all_goals simp (disch := omega) only [AllF, AllL, z10, x10, q10, exists_eq_left', Option.some.injEq, go_sem, ↓reduceIte, reduceCtorEq, Nat.reduceLT, Nat.reducePow, Nat.reduceLeDiff, Nat.reduceAdd, Nat.reduceMul, Nat.reduceSub, Nat.reduceEqDiff, Nat.reduceBEq, Int.reduceToNat, Int.reduceBEq, Int.reduceBNe, hd, cb, ruleD, r1, q]); (all_goals (repeat' (with_reducible apply And.intro))); (all_goals try (first | exact x6 rfl | (refine j10 ?_; omega) | (refine x6 ?_; simp; done)))
  · have : i = k := by omega
    subst this
    rw [List.getD_eq_getElem?_getD, List.getElem?_eq_getElem hlt, Option.getD_some, hge] at r1
    have q : ((n : Int) == (n : Int)) = true := ieq_tt rfl
    (repeat (first | refine z1 ?_ | refine j6 rfl ?_ | refine q7 rfl ?_ | refine z6 ?_ | (refine x3 fun K hK => ?_) | (refine x4 (by kernel_rfl) (by kernel_rfl) fun K hK => ?_) | (refine j5 ?_; (first | show AWP _ _ _ _ _ | show loopQ _ _ _ _ _ _ | show cutQ _ _ _ _ | (simp only [j0]; first | show AWP _ _ _ _ _ | show loopQ _ _ _ _ _ _ | show cutQ _ _ _ _))) | (refine q6 ?_; (first | show AWP _ _ _ _ _ | show loopQ _ _ _ _ _ _ | show cutQ _ _ _ _ | (simp only [j0]; first | show AWP _ _ _ _ _ | show loopQ _ _ _ _ _ _ | show cutQ _ _ _ _))) | ((first | refine z2 (hK _ ?_) | refine q5 (hK _ _ (j4 (by kernel_rfl)) ?_)); clear hK K; (first | show AWP _ _ _ _ _ | show loopQ _ _ _ _ _ _ | show cutQ _ _ _ _ | (simp only [j0]; first | show AWP _ _ _ _ _ | show loopQ _ _ _ _ _ _ | show cutQ _ _ _ _))) | ((first | refine z7 [] rfl ?_ | refine x7 [] rfl ?_); simp (maxSteps := 2000000) (disch := omega) only [go_sem, ↓reduceIte, reduceCtorEq, Nat.reduceLT, Nat.reducePow, Nat.reduceLeDiff, Nat.reduceAdd, Nat.reduceMul, Nat.reduceSub, Nat.reduceEqDiff, Nat.reduceBEq, Int.reduceToNat, Int.reduceBEq, Int.reduceBNe, hd, cb, ruleD, r1, q]; (repeat (first | refine ⟨by omega, ?_⟩ | refine ⟨True.intro, ?_⟩)))))
    refine q9 ⟨_, ?_, rfl⟩; rw [Try.results49]; simp (disch := omega) only [ResVars, ResVar, ptrLoc, go_sem, ↓reduceIte, reduceCtorEq, Nat.reduceLT, Nat.reducePow, Nat.reduceLeDiff, Nat.reduceAdd, Nat.reduceMul, Nat.reduceSub, Nat.reduceEqDiff, Nat.reduceBEq, Int.reduceToNat, Int.reduceBEq, Int.reduceBNe, hd, cb, ruleD, r1, q]
def seenR (l : List Rule) (n : Nat) : List Cube × Int := withoutR l ((orderR l).take ((orderR l).idxOf n)) [(l.getD n r0).mt]
theorem rowI_take (o : List Nat) (k i : Nat) (hi : i < k) : rowI o i = rowI (o.take k) i := by
  unfold rowI
  rw [List.getD_eq_getElem?_getD, List.getD_eq_getElem?_getD, List.getElem?_take_of_lt hi]
theorem rowC_one (c : Cube) (i : Nat) (hi : i < 1) : (fun i => [cb c].getD i []) i = rowC [c] i := by
  have : i = 0 := by omega
  subst this; rfl
theorem WithoutS_c (l : List Rule) (n : Nat) (hl : l.length ≤ 1099511627776) (hn : n < l.length) :
    ACalls Try.prog 48 [.d (.sl 12 l.length (rowR l)), .d (.sl 1 ((orderR l).idxOf n) (rowI (orderR l))), .d (.sl 4 1 fun i => [cb (l.getD n r0).mt].getD i [])] (· = [.d (.sl 4 (seenR l n).1.length (rowC (seenR l n).1)), .d (.v (.int .i64 (seenR l n).2))]) := by
  have hk : (orderR l).idxOf n ≤ (orderR l).length := List.idxOf_le_length
  have e : ((orderR l).take ((orderR l).idxOf n)).length = (orderR l).idxOf n := by rw [List.length_take]; exact Nat.min_eq_left hk
  have k := Without_c l ((orderR l).take ((orderR l).idxOf n)) [(l.getD n r0).mt] hl (fun n hn => orderR_lt (List.mem_of_mem_take hn)) (by rw [e]; rw [orderR_len] at hk; omega) (by simp) (fun hs k hk => by simp at hk; subst hk; exact soundL_at hs hn)
  rw [e] at k
  exact acalls_le (.cons (ple_refl _) (.cons (ple_sl rfl fun i hi => rowI_take _ _ i hi) (.cons (ple_sl rfl fun i hi => rowC_one _ i hi) .nil))) k
set_option maxRecDepth 100000 in
theorem Seen_c (l : List Rule) (n : Nat) (hl : l.length ≤ 1099511627776) (hn : n < l.length) :
    ACalls Try.prog 27 [.d (.sl 12 l.length (rowR l)), .d (.v (.int .i64 (n : Int)))] (· = [.d (.sl 4 (seenR l n).1.length (rowC (seenR l n).1)), .d (.v (.int .i64 (seenR l n).2))]) := by
  have k1 := Look_c l hl
  have k2 := IndexO_c (orderR l) n (orderR_mem.2 hn) (by rw [orderR_len]; omega)
  rw [orderR_len] at k2
  have k3 := WithoutS_c l n hl hn
  have hk : (orderR l).idxOf n ≤ l.length := by have := List.idxOf_le_length (l := orderR l) (a := n); rw [orderR_len] at this; exact this
  have r1 := rowR_at l n
  generalize l.getD n r0 = x at r1 k3
  generalize seenR l n = R at k3 ⊢
  generalize (orderR l).idxOf n = m at *
  unfold cb at k3
  refine q11 Try.func27 rfl (by decide +kernel) (by rw [Try.ntmps27]; simp) ?_; rw [Try.ntmps27]; simp only [frOf]
  (repeat (first | refine z1 ?_ | refine j6 rfl ?_ | refine q7 rfl ?_ | refine z6 ?_ | (refine x3 fun K hK => ?_) | (refine x4 (by kernel_rfl) (by kernel_rfl) fun K hK => ?_) | (refine j5 ?_; (first | show AWP _ _ _ _ _ | show loopQ _ _ _ _ _ _ | show cutQ _ _ _ _ | (simp only [j0]; first | show AWP _ _ _ _ _ | show loopQ _ _ _ _ _ _ | show cutQ _ _ _ _))) | (refine q6 ?_; (first | show AWP _ _ _ _ _ | show loopQ _ _ _ _ _ _ | show cutQ _ _ _ _ | (simp only [j0]; first | show AWP _ _ _ _ _ | show loopQ _ _ _ _ _ _ | show cutQ _ _ _ _))) | ((first | refine z2 (hK _ ?_) | refine q5 (hK _ _ (j4 (by kernel_rfl)) ?_)); clear hK K; (first | show AWP _ _ _ _ _ | show loopQ _ _ _ _ _ _ | show cutQ _ _ _ _ | (simp only [j0]; first | show AWP _ _ _ _ _ | show loopQ _ _ _ _ _ _ | show cutQ _ _ _ _))) | ((first | refine x9 rfl rfl rfl ?_ | refine j9 rfl rfl rfl ?_); simp (maxSteps := 2000000) (disch := omega) only [go_sem, ↓reduceIte, reduceCtorEq, Nat.reduceLT, Nat.reducePow, Nat.reduceLeDiff, Nat.reduceAdd, Nat.reduceMul, Nat.reduceSub, Nat.reduceEqDiff, Nat.reduceBEq, Int.reduceToNat, Int.reduceBEq, Int.reduceBNe, hd, cb, ruleD, r1]; (first | refine ⟨_, k1, ?_⟩ | refine ⟨_, k2, ?_⟩ | refine ⟨_, k3, ?_⟩)) | ((first | refine z7 [] rfl ?_ | refine x7 [] rfl ?_); simp (maxSteps := 2000000) (disch := omega) only [go_sem, ↓reduceIte, reduceCtorEq, Nat.reduceLT, Nat.reducePow, Nat.reduceLeDiff, Nat.reduceAdd, Nat.reduceMul, Nat.reduceSub, Nat.reduceEqDiff, Nat.reduceBEq, Int.reduceToNat, Int.reduceBEq, Int.reduceBNe, hd, cb, ruleD, r1]; (repeat (first | refine ⟨by omega, ?_⟩ | refine ⟨True.intro, ?_⟩)))))
  refine q9 ⟨_, ?_, rfl⟩; rw [Try.results27]; simp (disch := omega) only [ResVars, ResVar, ptrLoc, go_sem, ↓reduceIte, reduceCtorEq, Nat.reduceLT, Nat.reducePow, Nat.reduceLeDiff, Nat.reduceAdd, Nat.reduceMul, Nat.reduceSub, Nat.reduceEqDiff, Nat.reduceBEq, Int.reduceToNat, Int.reduceBEq, Int.reduceBNe, hd, cb, ruleD, r1]
def idleGo (l : List Rule) : Nat → Nat → List Nat → List Nat × Int
  | 0, _, out => (out, 0)
  | m + 1, i, out => if (seenR l i).2 = 0 then (if (seenR l i).1.length = 0 then idleGo l m (i + 1) (out ++ [i]) else idleGo l m (i + 1) out) else ([], (seenR l i).2)
def idleR (l : List Rule) : List Nat × Int := idleGo l l.length 0 []
def idleI (l : List Rule) (R : List Nat × Int) (s : {s : Nat × List Nat // s.1 ≤ l.length ∧ s.2.length ≤ s.1 ∧ idleGo l (l.length - s.1) s.1 s.2 = R}) : ASt :=
  ⟨[(10, .p (.d (.v (.int .i64 (s.val.1 : Int))))), (9, .p (.d (.v (.int .i64 (l.length : Int))))), (4, .gr 4 s.val.2.length 1 s.val.2.length (rowI s.val.2)), (0, .p (.d (.sl 12 l.length (rowR l))))], [(4, .grow 3 1 s.val.2.length s.val.2.length)]⟩
set_option maxRecDepth 100000 in
set_option maxHeartbeats 4000000 in
theorem Idle_c (l : List Rule) (hl : l.length ≤ 1099511627776) :
    ACalls Try.prog 21 [.d (.sl 12 l.length (rowR l))] (· = [.d (.sl 1 (idleR l).1.length (rowI (idleR l).1)), .d (.v (.int .i64 (idleR l).2))]) := by
  unfold idleR
  obtain ⟨R, hR⟩ : ∃ R, idleGo l l.length 0 [] = R := ⟨_, rfl⟩
  rw [hR]
  refine q11 Try.func21 rfl (by decide +kernel) (by rw [Try.ntmps21]; simp) ?_; rw [Try.ntmps21]; simp only [frOf]
  (repeat (first | refine z1 ?_ | refine j6 rfl ?_ | refine q7 rfl ?_ | refine z6 ?_ | (refine x3 fun K hK => ?_) | (refine x4 (by kernel_rfl) (by kernel_rfl) fun K hK => ?_) | (refine j5 ?_; (first | show AWP _ _ _ _ _ | show loopQ _ _ _ _ _ _ | show cutQ _ _ _ _ | (simp only [j0]; first | show AWP _ _ _ _ _ | show loopQ _ _ _ _ _ _ | show cutQ _ _ _ _))) | (refine q6 ?_; (first | show AWP _ _ _ _ _ | show loopQ _ _ _ _ _ _ | show cutQ _ _ _ _ | (simp only [j0]; first | show AWP _ _ _ _ _ | show loopQ _ _ _ _ _ _ | show cutQ _ _ _ _))) | ((first | refine z2 (hK _ ?_) | refine q5 (hK _ _ (j4 (by kernel_rfl)) ?_)); clear hK K; (first | show AWP _ _ _ _ _ | show loopQ _ _ _ _ _ _ | show cutQ _ _ _ _ | (simp only [j0]; first | show AWP _ _ _ _ _ | show loopQ _ _ _ _ _ _ | show cutQ _ _ _ _))) | ((first | refine z7 [] rfl ?_ | refine x7 [] rfl ?_); simp (maxSteps := 2000000) (disch := omega) only [go_sem, ↓reduceIte, reduceCtorEq, Nat.reduceLT, Nat.reducePow, Nat.reduceLeDiff, Nat.reduceAdd, Nat.reduceMul, Nat.reduceSub, Nat.reduceEqDiff, Nat.reduceBEq, Int.reduceToNat, Int.reduceBEq, Int.reduceBNe, hd, cb, ruleD]; (repeat (first | refine ⟨by omega, ?_⟩ | refine ⟨True.intro, ?_⟩)))))
  refine awp_grow 4 4 1 3 (rowI []) rfl (by kernel_rfl) rfl ?_
  refine awp_loop (idleI l R) (fun s => l.length - s.val.1) ⟨(0, []), by simp, by simp, hR⟩ ?_ (fun s => ?_)
  · unfold idleI
    refine Weak.list ?_ ?_; (all_goals simp (disch := omega) only [AllF, AllL, z10, x10, q10, exists_eq_left', Option.some.injEq, go_sem, ↓reduceIte, reduceCtorEq, Nat.reduceLT, Nat.reducePow, Nat.reduceLeDiff, Nat.reduceAdd, Nat.reduceMul, Nat.reduceSub, Nat.reduceEqDiff, Nat.reduceBEq, Int.reduceToNat, Int.reduceBEq, Int.reduceBNe, hd, cb, ruleD]); (all_goals (repeat' (with_reducible apply And.intro))); (all_goals try (first | exact x6 rfl | (refine j10 ?_; omega) | (refine x6 ?_; simp; done)))
  obtain ⟨⟨i, out⟩, h1, h2, he⟩ := s
  unfold idleI
  simp only [] at h1 h2 he
  by_cases hn : i < l.length
  · have ks := Seen_c l i hl hn
    obtain ⟨m, hm⟩ : ∃ m, l.length - i = m + 1 := ⟨l.length - i - 1, by omega⟩
    have hm' : m = l.length - (i + 1) := by omega
    rw [hm] at he
    unfold idleGo at he
    generalize seenR l i = u at ks he
    obtain ⟨u, e⟩ := u
    simp only [] at ks he
    by_cases h0 : e = 0
    · subst h0
      rw [if_pos rfl] at he
      by_cases hu : u.length = 0
      · rw [if_pos hu] at he
        have q : ((u.length : Int) == 0) = true := ieq_tt (by omega)
        (repeat (first | refine z1 ?_ | refine j6 rfl ?_ | refine q7 rfl ?_ | refine z6 ?_ | (refine x3 fun K hK => ?_) | (refine x4 (by kernel_rfl) (by kernel_rfl) fun K hK => ?_) | (refine j5 ?_; (first | show AWP _ _ _ _ _ | show loopQ _ _ _ _ _ _ | show cutQ _ _ _ _ | (simp only [j0]; first | show AWP _ _ _ _ _ | show loopQ _ _ _ _ _ _ | show cutQ _ _ _ _))) | (refine q6 ?_; (first | show AWP _ _ _ _ _ | show loopQ _ _ _ _ _ _ | show cutQ _ _ _ _ | (simp only [j0]; first | show AWP _ _ _ _ _ | show loopQ _ _ _ _ _ _ | show cutQ _ _ _ _))) | ((first | refine z2 (hK _ ?_) | refine q5 (hK _ _ (j4 (by kernel_rfl)) ?_)); clear hK K; (first | show AWP _ _ _ _ _ | show loopQ _ _ _ _ _ _ | show cutQ _ _ _ _ | (simp only [j0]; first | show AWP _ _ _ _ _ | show loopQ _ _ _ _ _ _ | show cutQ _ _ _ _))) | ((first | refine x9 rfl rfl rfl ?_ | refine j9 rfl rfl rfl ?_); simp (maxSteps := 2000000) (disch := omega) only [go_sem, ↓reduceIte, reduceCtorEq, Nat.reduceLT, Nat.reducePow, Nat.reduceLeDiff, Nat.reduceAdd, Nat.reduceMul, Nat.reduceSub, Nat.reduceEqDiff, Nat.reduceBEq, Int.reduceToNat, Int.reduceBEq, Int.reduceBNe, hd, cb, ruleD, q]; (first | refine ⟨_, ks, ?_⟩)) | ((first | refine z7 [] rfl ?_ | refine x7 [] rfl ?_); simp (maxSteps := 2000000) (disch := omega) only [go_sem, ↓reduceIte, reduceCtorEq, Nat.reduceLT, Nat.reducePow, Nat.reduceLeDiff, Nat.reduceAdd, Nat.reduceMul, Nat.reduceSub, Nat.reduceEqDiff, Nat.reduceBEq, Int.reduceToNat, Int.reduceBEq, Int.reduceBNe, hd, cb, ruleD, q]; (repeat (first | refine ⟨by omega, ?_⟩ | refine ⟨True.intro, ?_⟩)))))
        refine ⟨⟨(i + 1, out ++ [i]), by simp only []; omega, by simp only [List.length_append, List.length_singleton]; omega, by rw [← hm']; exact he⟩, by simp only []; omega, ?_⟩
        simp only [List.length_append, List.length_singleton]
        refine Weak.list ?_ ?_; (all_goals simp (disch := omega) only [AllF, AllL, z10, x10, q10, exists_eq_left', Option.some.injEq, go_sem, ↓reduceIte, reduceCtorEq, Nat.reduceLT, Nat.reducePow, Nat.reduceLeDiff, Nat.reduceAdd, Nat.reduceMul, Nat.reduceSub, Nat.reduceEqDiff, Nat.reduceBEq, Int.reduceToNat, Int.reduceBEq, Int.reduceBNe, hd, cb, ruleD, q]); (all_goals (repeat' (with_reducible apply And.intro))); (all_goals try (first | exact x6 rfl | (refine j10 ?_; omega) | (refine x6 ?_; simp; done)))
        exact le_grgr rfl rfl (fun k hk => rowI_put out i k hk)
      · rw [if_neg hu] at he
        have q : ((u.length : Int) == 0) = false := ieq_ff (by omega)
        (repeat (first | refine z1 ?_ | refine j6 rfl ?_ | refine q7 rfl ?_ | refine z6 ?_ | (refine x3 fun K hK => ?_) | (refine x4 (by kernel_rfl) (by kernel_rfl) fun K hK => ?_) | (refine j5 ?_; (first | show AWP _ _ _ _ _ | show loopQ _ _ _ _ _ _ | show cutQ _ _ _ _ | (simp only [j0]; first | show AWP _ _ _ _ _ | show loopQ _ _ _ _ _ _ | show cutQ _ _ _ _))) | (refine q6 ?_; (first | show AWP _ _ _ _ _ | show loopQ _ _ _ _ _ _ | show cutQ _ _ _ _ | (simp only [j0]; first | show AWP _ _ _ _ _ | show loopQ _ _ _ _ _ _ | show cutQ _ _ _ _))) | ((first | refine z2 (hK _ ?_) | refine q5 (hK _ _ (j4 (by kernel_rfl)) ?_)); clear hK K; (first | show AWP _ _ _ _ _ | show loopQ _ _ _ _ _ _ | show cutQ _ _ _ _ | (simp only [j0]; first | show AWP _ _ _ _ _ | show loopQ _ _ _ _ _ _ | show cutQ _ _ _ _))) | ((first | refine x9 rfl rfl rfl ?_ | refine j9 rfl rfl rfl ?_); simp (maxSteps := 2000000) (disch := omega) only [go_sem, ↓reduceIte, reduceCtorEq, Nat.reduceLT, Nat.reducePow, Nat.reduceLeDiff, Nat.reduceAdd, Nat.reduceMul, Nat.reduceSub, Nat.reduceEqDiff, Nat.reduceBEq, Int.reduceToNat, Int.reduceBEq, Int.reduceBNe, hd, cb, ruleD, q]; (first | refine ⟨_, ks, ?_⟩)) | ((first | refine z7 [] rfl ?_ | refine x7 [] rfl ?_); simp (maxSteps := 2000000) (disch := omega) only [go_sem, ↓reduceIte, reduceCtorEq, Nat.reduceLT, Nat.reducePow, Nat.reduceLeDiff, Nat.reduceAdd, Nat.reduceMul, Nat.reduceSub, Nat.reduceEqDiff, Nat.reduceBEq, Int.reduceToNat, Int.reduceBEq, Int.reduceBNe, hd, cb, ruleD, q]; (repeat (first | refine ⟨by omega, ?_⟩ | refine ⟨True.intro, ?_⟩)))))
        refine ⟨⟨(i + 1, out), by simp only []; omega, by simp only []; omega, by rw [← hm']; exact he⟩, by simp only []; omega, ?_⟩
        refine Weak.list ?_ ?_; (all_goals simp (disch := omega) only [AllF, AllL, z10, x10, q10, exists_eq_left', Option.some.injEq, go_sem, ↓reduceIte, reduceCtorEq, Nat.reduceLT, Nat.reducePow, Nat.reduceLeDiff, Nat.reduceAdd, Nat.reduceMul, Nat.reduceSub, Nat.reduceEqDiff, Nat.reduceBEq, Int.reduceToNat, Int.reduceBEq, Int.reduceBNe, hd, cb, ruleD, q]); (all_goals (repeat' (with_reducible apply And.intro))); (all_goals try (first | exact x6 rfl | (refine j10 ?_; omega) | (refine x6 ?_; simp; done)))
    · rw [if_neg h0] at he
      have q : (e != 0) = true := ine_tt h0
      (repeat (first | refine z1 ?_ | refine j6 rfl ?_ | refine q7 rfl ?_ | refine z6 ?_ | (refine x3 fun K hK => ?_) | (refine x4 (by kernel_rfl) (by kernel_rfl) fun K hK => ?_) | (refine j5 ?_; (first | show AWP _ _ _ _ _ | show loopQ _ _ _ _ _ _ | show cutQ _ _ _ _ | (simp only [j0]; first | show AWP _ _ _ _ _ | show loopQ _ _ _ _ _ _ | show cutQ _ _ _ _))) | (refine q6 ?_; (first | show AWP _ _ _ _ _ | show loopQ _ _ _ _ _ _ | show cutQ _ _ _ _ | (simp only [j0]; first | show AWP _ _ _ _ _ | show loopQ _ _ _ _ _ _ | show cutQ _ _ _ _))) | ((first | refine z2 (hK _ ?_) | refine q5 (hK _ _ (j4 (by kernel_rfl)) ?_)); clear hK K; (first | show AWP _ _ _ _ _ | show loopQ _ _ _ _ _ _ | show cutQ _ _ _ _ | (simp only [j0]; first | show AWP _ _ _ _ _ | show loopQ _ _ _ _ _ _ | show cutQ _ _ _ _))) | ((first | refine x9 rfl rfl rfl ?_ | refine j9 rfl rfl rfl ?_); simp (maxSteps := 2000000) (disch := omega) only [go_sem, ↓reduceIte, reduceCtorEq, Nat.reduceLT, Nat.reducePow, Nat.reduceLeDiff, Nat.reduceAdd, Nat.reduceMul, Nat.reduceSub, Nat.reduceEqDiff, Nat.reduceBEq, Int.reduceToNat, Int.reduceBEq, Int.reduceBNe, hd, cb, ruleD, q]; (first | refine ⟨_, ks, ?_⟩)) | ((first | refine z7 [] rfl ?_ | refine x7 [] rfl ?_); simp (maxSteps := 2000000) (disch := omega) only [go_sem, ↓reduceIte, reduceCtorEq, Nat.reduceLT, Nat.reducePow, Nat.reduceLeDiff, Nat.reduceAdd, Nat.reduceMul, Nat.reduceSub, Nat.reduceEqDiff, Nat.reduceBEq, Int.reduceToNat, Int.reduceBEq, Int.reduceBNe, hd, cb, ruleD, q]; (repeat (first | refine ⟨by omega, ?_⟩ | refine ⟨True.intro, ?_⟩)))))
      refine awp_slot 2 _ (.p (.d (.sl 1 0 (rowI [])))) rfl (le_nil _ _ _ rfl) ?_
      subst he
      refine q9 ⟨_, ?_, rfl⟩; rw [Try.results21]; simp (disch := omega) only [ResVars, ResVar, ptrLoc, go_sem, ↓reduceIte, reduceCtorEq, Nat.reduceLT, Nat.reducePow, Nat.reduceLeDiff, Nat.reduceAdd, Nat.reduceMul, Nat.reduceSub, Nat.reduceEqDiff, Nat.reduceBEq, Int.reduceToNat, Int.reduceBEq, Int.reduceBNe, hd, cb, ruleD, q]
  · have : i = l.length := by omega
    subst this
    rw [Nat.sub_self] at he
    unfold idleGo at he
    subst he
    (repeat (first | refine z1 ?_ | refine j6 rfl ?_ | refine q7 rfl ?_ | refine z6 ?_ | (refine x3 fun K hK => ?_) | (refine x4 (by kernel_rfl) (by kernel_rfl) fun K hK => ?_) | (refine j5 ?_; (first | show AWP _ _ _ _ _ | show loopQ _ _ _ _ _ _ | show cutQ _ _ _ _ | (simp only [j0]; first | show AWP _ _ _ _ _ | show loopQ _ _ _ _ _ _ | show cutQ _ _ _ _))) | (refine q6 ?_; (first | show AWP _ _ _ _ _ | show loopQ _ _ _ _ _ _ | show cutQ _ _ _ _ | (simp only [j0]; first | show AWP _ _ _ _ _ | show loopQ _ _ _ _ _ _ | show cutQ _ _ _ _))) | ((first | refine z2 (hK _ ?_) | refine q5 (hK _ _ (j4 (by kernel_rfl)) ?_)); clear hK K; (first | show AWP _ _ _ _ _ | show loopQ _ _ _ _ _ _ | show cutQ _ _ _ _ | (simp only [j0]; first | show AWP _ _ _ _ _ | show loopQ _ _ _ _ _ _ | show cutQ _ _ _ _))) | ((first | refine z7 [] rfl ?_ | refine x7 [] rfl ?_); simp (maxSteps := 2000000) (disch := omega) only [go_sem, ↓reduceIte, reduceCtorEq, Nat.reduceLT, Nat.reducePow, Nat.reduceLeDiff, Nat.reduceAdd, Nat.reduceMul, Nat.reduceSub, Nat.reduceEqDiff, Nat.reduceBEq, Int.reduceToNat, Int.reduceBEq, Int.reduceBNe, hd, cb, ruleD]; (repeat (first | refine ⟨by omega, ?_⟩ | refine ⟨True.intro, ?_⟩)))))
    refine awp_slot 2 _ (.p (.d (.sl 1 out.length (rowI out)))) rfl (le_gr rfl fun _ _ => rfl) ?_
    refine q9 ⟨_, ?_, rfl⟩; rw [Try.results21]; simp (disch := omega) only [ResVars, ResVar, ptrLoc, go_sem, ↓reduceIte, reduceCtorEq, Nat.reduceLT, Nat.reducePow, Nat.reduceLeDiff, Nat.reduceAdd, Nat.reduceMul, Nat.reduceSub, Nat.reduceEqDiff, Nat.reduceBEq, Int.reduceToNat, Int.reduceBEq, Int.reduceBNe, hd, cb, ruleD]
end Go.Proofs.Ytbiildleaelodaa
set_option linter.unusedSimpArgs false
set_option linter.unusedVariables false
namespace Go.Proofs.Ytbiildleaelodaa
open Go.Proofs.Ytbiildleaelodaa.AL
end Go.Proofs.Ytbiildleaelodaa
set_option linter.unusedSimpArgs false
set_option linter.unusedVariables false
namespace Go.Proofs.Ytbiildleaelodaa
open Go.Proofs.Ytbiildleaelodaa.AL
end Go.Proofs.Ytbiildleaelodaa
set_option linter.unusedSimpArgs false
set_option linter.unusedVariables false
namespace Go.Proofs.Ytbiildleaelodaa
open Go.Proofs.Ytbiildleaelodaa.AL
end Go.Proofs.Ytbiildleaelodaa
set_option linter.unusedSimpArgs false
set_option linter.unusedVariables false
namespace Go.Proofs.Ytbiildleaelodaa
open Go.Proofs.Ytbiildleaelodaa.AL
end Go.Proofs.Ytbiildleaelodaa
set_option linter.unusedSimpArgs false
set_option linter.unusedVariables false
namespace Go.Proofs.Ytbiildleaelodaa
open Go.Proofs.Ytbiildleaelodaa.AL
end Go.Proofs.Ytbiildleaelodaa
set_option linter.unusedSimpArgs false
set_option linter.unusedVariables false
namespace Go.Proofs.Ytbiildleaelodaa
open Go.Proofs.Ytbiildleaelodaa.AL
def rsI (l : List Rule) (n : Nat) (i : {i : Nat // i ≤ (orderR l).idxOf n}) : ASt :=
  ⟨[(7, .p (.d (.v (.int .i64 (i.val : Int))))), (6, .p (.d (.sl 1 l.length (rowI (orderR l))))), (1, .p (.d (.v (.int .i64 (n : Int))))), (0, .p (.d (.sl 12 l.length (rowR l))))], []⟩
end Go.Proofs.Ytbiildleaelodaa
set_option linter.unusedSimpArgs false
set_option linter.unusedVariables false
namespace Go.Proofs.Ytbiildleaelodaa
open Go Go.Proofs.Ytbiildleaelodaa.AL
def DLe (x y : Dat) : Prop := ∀ (w : World) (g : Nat → Nat) (v : Value), RelD w g v x → RelD w g v y
inductive DLes : List Dat → List Dat → Prop
  | nil : DLes [] []
  | cons {x y : Dat} {xs ys : List Dat} (h : DLe x y) (t : DLes xs ys) : DLes (x :: xs) (y :: ys)
theorem dle_refl (x : Dat) : DLe x x := fun _ _ _ h => h
theorem DLes.refl : ∀ xs : List Dat, DLes xs xs
  | [] => .nil
  | x :: xs => .cons (dle_refl x) (DLes.refl xs)
theorem DLes.of_eq {xs ys : List Dat} (h : xs = ys) : DLes xs ys := h ▸ DLes.refl xs
theorem DLes.length {xs ys : List Dat} (h : DLes xs ys) : xs.length = ys.length := by
  induction h with
  | nil => rfl
  | cons _ _ ih => simp [ih]
theorem DLes.at {xs ys : List Dat} (h : DLes xs ys) : ∀ {j : Nat} {y : Dat}, ys[j]? = some y → ∃ x, xs[j]? = some x ∧ DLe x y := by
  induction h with
  | nil => intro j y h; simp at h
  | cons h t ih =>
    intro j y hy
    cases j with
    | zero => simp at hy; subst hy; exact ⟨_, by simp, h⟩
    | succ j => simp at hy; obtain ⟨x, h1, h2⟩ := ih hy; exact ⟨x, by simpa using h1, h2⟩
theorem dle_sl {sz n n' : Nat} {f f' : Nat → List Dat} (hn : n = n') (hf : ∀ i, i < n → DLes (f i) (f' i)) : DLe (.sl sz n f) (.sl sz n' f') := by
  subst hn
  intro w g v r
  cases r with
  | sl0 a c sz f => exact .sl0 _ _ _ _
  | sl b off n c sz f u h1 h2 h3 h4 h5 =>
    refine .sl b off n c sz f' u h1 (fun i hi => by rw [← (hf i hi).length]; exact h2 i hi) h3 h4 (fun i j y hi hy => ?_)
    obtain ⟨x, k1, k2⟩ := (hf i hi).at hy
    exact k2 _ _ _ (h5 i j x hi k1)
theorem dle_emp {a : Option Addr} {c sz : Nat} {f : Nat → List Dat} : DLe (.v (.slice a 0 c)) (.sl sz 0 f) := by
  intro w g v r
  cases r
  exact .sl0 _ _ _ _
theorem ple_d {x y : Dat} (h : DLe x y) : PLe (.d x) (.d y) := by
  intro w g v r
  cases r with
  | d _ _ r => exact .d _ _ (h _ _ _ r)
end Go.Proofs.Ytbiildleaelodaa
set_option linter.unusedSimpArgs false
set_option linter.unusedVariables false
namespace Go.Proofs.Ytbiildleaelodaa
open Go.Proofs.Ytbiildleaelodaa.AL
def tA : List Rule := [⟨1, ⟨0, 0⟩, 1, 0, 0, ⟨0, 0⟩⟩, ⟨2, ⟨1, 1⟩, 1, 0, 0, ⟨0, 0⟩⟩, ⟨0, ⟨1, 1⟩, 1, 0, 0, ⟨0, 0⟩⟩]
def tl (pr m : Int) : List Dat := [.v (.int .i64 pr), .v (.int .u64 0), .v (.int .u64 m), .v (.int .u64 0), .v (.int .u64 m), .v (.int .i64 1), .v (.int .i64 0), .v (.int .i64 0), .v (.int .u64 0), .v (.int .u64 0), .v (.int .u64 0), .v (.int .u64 0)]
theorem tA_row (i : Nat) (hi : i < 3) : [tl 1 0, tl 2 1, tl 0 1].getD i [] = rowR tA i := by
  match i, hi with
  | 0, _ => simp [rowR, tA, ruleD, tl, hi0, lo0]
  | 1, _ => simp [rowR, tA, ruleD, tl, hi0, lo0, hi1, lo1]
  | 2, _ => simp [rowR, tA, ruleD, tl, hi0, lo0, hi1, lo1]
theorem hd3 : hd 3#128 = [.v (.int .u64 0), .v (.int .u64 3)] := by unfold hd; rw [show hi 3#128 = 0 from by decide, show lo 3#128 = 3 from by decide]
theorem hd2 : hd 2#128 = [.v (.int .u64 0), .v (.int .u64 2)] := by unfold hd; rw [show hi 2#128 = 0 from by decide, show lo 2#128 = 2 from by decide]
set_option maxRecDepth 100000 in
set_option maxHeartbeats 8000000 in
theorem awake6_c : ACalls Try.prog 17 [] (· = [.d (.v (.bool true))]) := by
  have f1 := Find_c tA 3#128 (by decide)
  have f2 := Find_c tA 2#128 (by decide)
  rw [show findR tA 3#128 = some 1 from by decide +kernel, hd3] at f1
  rw [show findR tA 2#128 = some 0 from by decide +kernel, hd2] at f2
  have f3 := Seen_c tA 0 (by decide) (by decide)
  rw [show (seenR tA 0).2 = 0 from by decide +kernel, show (seenR tA 0).1.length = 1 from by decide +kernel] at f3
  generalize rowC (seenR tA 0).1 = rw0 at f3
  have f4 := Idle_c tA (by decide)
  rw [show idleR tA = ([2], 0) from by decide +kernel] at f4
  have f5 := SoundTab_c [tA] [] (by unfold smallR; simp [tA]) (by simp)
  rw [show soundTab [tA] [] = 0 from by decide +kernel] at f5
  have g1 := acalls_sl (P := Try.prog) (n' := 3) rfl tA_row f1
  have g2 := acalls_sl (P := Try.prog) (n' := 3) rfl tA_row f2
  have g3 := acalls_sl (P := Try.prog) (n' := 3) rfl tA_row f3
  have g4 := acalls_sl (P := Try.prog) (n' := 3) rfl tA_row f4
  have g5 : ACalls Try.prog 18 [.d (.sl 1 1 fun i => [[Dat.sl 12 3 fun i => [tl 1 0, tl 2 1, tl 0 1].getD i []]].getD i []), .d (.v (.slice none 0 0))] (· = [.d (.v (.int .i64 0))]) := by
    refine acalls_le (.cons (ple_d (dle_sl rfl fun i hi => ?_)) (.cons (ple_d dle_emp) .nil)) f5
    have : i = 0 := by omega
    subst this
    exact .cons (dle_sl rfl fun i hi => .of_eq (tA_row i hi)) .nil
  clear f1 f2 f3 f4 f5
  have e0 : rowI [2] 0 = [.v (.int .i64 2)] := rfl
  simp only [List.length_singleton, Option.getD_some, Option.isSome_some, Int.cast_ofNat_Int] at g1 g2 g3 g4
  unfold tl at *
  refine q11 Try.func17 rfl (by decide +kernel) (by rw [Try.ntmps17]; simp) ?_; rw [Try.ntmps17]; simp only [frOf]
  (repeat (first | refine z1 ?_ | refine j6 rfl ?_ | refine q7 rfl ?_ | refine z6 ?_ | (refine x3 fun K hK => ?_) | (refine x4 (by kernel_rfl) (by kernel_rfl) fun K hK => ?_) | (refine j5 ?_; (first | show AWP _ _ _ _ _ | show loopQ _ _ _ _ _ _ | show cutQ _ _ _ _ | (simp only [j0]; first | show AWP _ _ _ _ _ | show loopQ _ _ _ _ _ _ | show cutQ _ _ _ _))) | (refine q6 ?_; (first | show AWP _ _ _ _ _ | show loopQ _ _ _ _ _ _ | show cutQ _ _ _ _ | (simp only [j0]; first | show AWP _ _ _ _ _ | show loopQ _ _ _ _ _ _ | show cutQ _ _ _ _))) | ((first | refine z2 (hK _ ?_) | refine q5 (hK _ _ (j4 (by kernel_rfl)) ?_)); clear hK K; (first | show AWP _ _ _ _ _ | show loopQ _ _ _ _ _ _ | show cutQ _ _ _ _ | (simp only [j0]; first | show AWP _ _ _ _ _ | show loopQ _ _ _ _ _ _ | show cutQ _ _ _ _))) | ((first | refine x9 rfl rfl rfl ?_ | refine j9 rfl rfl rfl ?_); simp (maxSteps := 2000000) (disch := omega) only [go_sem, ↓reduceIte, reduceCtorEq, Nat.reduceLT, Nat.reducePow, Nat.reduceLeDiff, Nat.reduceAdd, Nat.reduceMul, Nat.reduceSub, Nat.reduceEqDiff, Nat.reduceBEq, Int.reduceToNat, Int.reduceBEq, Int.reduceBNe, hd, cb, ruleD, e0]; (first | refine ⟨_, g1, ?_⟩ | refine ⟨_, g2, ?_⟩ | refine ⟨_, g3, ?_⟩ | refine ⟨_, g4, ?_⟩ | refine ⟨_, g5, ?_⟩)) | ((first | refine z7 [] rfl ?_ | refine x7 [] rfl ?_); simp (maxSteps := 2000000) (disch := omega) only [go_sem, ↓reduceIte, reduceCtorEq, Nat.reduceLT, Nat.reducePow, Nat.reduceLeDiff, Nat.reduceAdd, Nat.reduceMul, Nat.reduceSub, Nat.reduceEqDiff, Nat.reduceBEq, Int.reduceToNat, Int.reduceBEq, Int.reduceBNe, hd, cb, ruleD, e0]; (repeat (first | refine ⟨by omega, ?_⟩ | refine ⟨True.intro, ?_⟩)))))
  refine q9 ⟨_, ?_, rfl⟩; rw [Try.results17]; simp (disch := omega) only [ResVars, ResVar, ptrLoc, go_sem, ↓reduceIte, reduceCtorEq, Nat.reduceLT, Nat.reducePow, Nat.reduceLeDiff, Nat.reduceAdd, Nat.reduceMul, Nat.reduceSub, Nat.reduceEqDiff, Nat.reduceBEq, Int.reduceToNat, Int.reduceBEq, Int.reduceBNe, hd, cb, ruleD, e0]
end Go.Proofs.Ytbiildleaelodaa
set_option linter.unusedSimpArgs false
set_option linter.unusedVariables false
namespace Go.Proofs.Ytbiildleaelodaa
open Go.Proofs.Ytbiildleaelodaa.AL
theorem TableSound_c (ts : List (List Rule)) (ps : List Port) (ht : smallR ts) (hp : ps.length ≤ 1048576) : ACalls Try.prog 4 [.d (.sl 1 ts.length (rowRR ts)), .d (.sl 5 ps.length (rowP ps))] (· = [.d (.v (.bool true))]) := by
  have k1 := SoundTab_c ts ps ht hp
  have k2 := SoundTabR_c ts ps ht hp
  have k3 := awake6_c
  generalize soundTab ts ps = e at k1 k2
  have q1 : (e == e) = true := ieq_tt rfl
  refine q11 Try.func4 rfl (by decide +kernel) (by rw [Try.ntmps4]; simp) ?_; rw [Try.ntmps4]; simp only [frOf]
  (repeat (first | refine z1 ?_ | refine j6 rfl ?_ | refine q7 rfl ?_ | refine z6 ?_ | (refine x3 fun K hK => ?_) | (refine x4 (by kernel_rfl) (by kernel_rfl) fun K hK => ?_) | (refine j5 ?_; (first | show AWP _ _ _ _ _ | show loopQ _ _ _ _ _ _ | show cutQ _ _ _ _ | (simp only [j0]; first | show AWP _ _ _ _ _ | show loopQ _ _ _ _ _ _ | show cutQ _ _ _ _))) | (refine q6 ?_; (first | show AWP _ _ _ _ _ | show loopQ _ _ _ _ _ _ | show cutQ _ _ _ _ | (simp only [j0]; first | show AWP _ _ _ _ _ | show loopQ _ _ _ _ _ _ | show cutQ _ _ _ _))) | ((first | refine z2 (hK _ ?_) | refine q5 (hK _ _ (j4 (by kernel_rfl)) ?_)); clear hK K; (first | show AWP _ _ _ _ _ | show loopQ _ _ _ _ _ _ | show cutQ _ _ _ _ | (simp only [j0]; first | show AWP _ _ _ _ _ | show loopQ _ _ _ _ _ _ | show cutQ _ _ _ _))) | ((first | refine x9 rfl rfl rfl ?_ | refine j9 rfl rfl rfl ?_); simp (maxSteps := 2000000) (disch := omega) only [go_sem, ↓reduceIte, reduceCtorEq, Nat.reduceLT, Nat.reducePow, Nat.reduceLeDiff, Nat.reduceAdd, Nat.reduceMul, Nat.reduceSub, Nat.reduceEqDiff, Nat.reduceBEq, Int.reduceToNat, Int.reduceBEq, Int.reduceBNe, hd, cb, ruleD, q1]; (first | refine ⟨_, k1, ?_⟩ | refine ⟨_, k2, ?_⟩ | refine ⟨_, k3, ?_⟩)) | ((first | refine z7 [] rfl ?_ | refine x7 [] rfl ?_); simp (maxSteps := 2000000) (disch := omega) only [go_sem, ↓reduceIte, reduceCtorEq, Nat.reduceLT, Nat.reducePow, Nat.reduceLeDiff, Nat.reduceAdd, Nat.reduceMul, Nat.reduceSub, Nat.reduceEqDiff, Nat.reduceBEq, Int.reduceToNat, Int.reduceBEq, Int.reduceBNe, hd, cb, ruleD, q1]; (repeat (first | refine ⟨by omega, ?_⟩ | refine ⟨True.intro, ?_⟩)))))
  refine q9 ⟨_, ?_, rfl⟩; rw [Try.results4]; simp (disch := omega) only [ResVars, ResVar, ptrLoc, go_sem, ↓reduceIte, reduceCtorEq, Nat.reduceLT, Nat.reducePow, Nat.reduceLeDiff, Nat.reduceAdd, Nat.reduceMul, Nat.reduceSub, Nat.reduceEqDiff, Nat.reduceBEq, Int.reduceToNat, Int.reduceBEq, Int.reduceBNe, hd, cb, ruleD, q1]
end Go.Proofs.Ytbiildleaelodaa
