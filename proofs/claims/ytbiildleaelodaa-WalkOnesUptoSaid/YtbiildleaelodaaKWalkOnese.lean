/- Part 5 of a proof: lemmas beneath the theorem that the last text bears. Conditions: none. -/
import Derived.Test.YtbiildleaelodaaKWalkOnesd
set_option linter.unusedSimpArgs false
set_option linter.unusedVariables false
namespace Go.Proofs.Ytbiildleaelodaa
open Go.Proofs.Ytbiildleaelodaa.AL
def bestH (l : List Rule) (h : BitVec 128) (i : Nat) : Option Nat := bestTo (fun i => !hasC (l.getD i r0).mt h) (fun i => l.getD i r0) i
def rfI (l : List Rule) (h : BitVec 128) (i : {i : Nat // i ≤ l.length}) : ASt :=
  ⟨[(7, .p (.d (.v (.int .i64 (i.val : Int))))), (6, .p (.d (.v (.int .i64 (bestI (bestH l h i.val)))))), (3, .p (.d (.bx (hd h)))), (0, .p (.d (.sl 12 l.length (rowR l))))], []⟩
theorem bestH_lt {l : List Rule} {h : BitVec 128} {i b : Nat} (e : bestH l h i = some b) : b < i := by
  have sp := bestTo_spec (fun i => !hasC (l.getD i r0).mt h) (fun i => l.getD i r0) i
  unfold bestH at e
  rw [e] at sp
  exact sp.1
theorem bestH_succ (l : List Rule) (h : BitVec 128) (i : Nat) : bestH l h (i + 1) = match bestH l h i with
    | none => if hasC (l.getD i r0).mt h then some i else none
    | some b => if hasC (l.getD i r0).mt h then (if (l.getD b r0).pr < (l.getD i r0).pr then some i else some b) else some b := by
  unfold bestH
  rw [bestTo_succ]
  cases bestTo (fun i => !hasC (l.getD i r0).mt h) (fun i => l.getD i r0) i <;> cases hasC (l.getD i r0).mt h <;> rfl
set_option maxRecDepth 100000 in
set_option maxHeartbeats 4000000 in
theorem FindRef_c (l : List Rule) (h : BitVec 128) (hl : l.length ≤ 1099511627776) : ACalls Try.prog 16 [.d (.sl 12 l.length (rowR l)), .agg (hd h)]
    (· = [.d (.v (.int .i64 (((bestH l h l.length).getD 0 : Nat) : Int))), .d (.v (.bool (bestH l h l.length).isSome))]) := by
  refine j10 Try.func16 rfl (by decide +kernel) (by rw [Try.ntmps16]; simp) ?_; rw [Try.ntmps16]; simp only [frOf]
  (repeat (first | refine j0 ?_ | refine q7 rfl ?_ | refine z7 rfl ?_ | refine x6 ?_ | (refine x4 fun K hK => ?_) | (refine j4 (by kernel_rfl) (by kernel_rfl) fun K hK => ?_) | ((first | refine q6 ?_ | refine z6 ?_ | ((first | refine z2 (hK _ ?_) | refine j5 (hK _ _ (x5 (by kernel_rfl)) ?_)); clear hK K)); (first | show AWP _ _ _ _ _ | ((try simp only [q8]); first | show loopQ _ _ _ _ _ _ | show cutQ _ _ _ _ | show AWP _ _ _ _ _))) | ((first | refine x7 [] rfl ?_ | refine j7 [] rfl ?_); simp (maxSteps := 2000000) (disch := omega) only [go_sem, seval, hd, cb, ruleD]; (repeat (first | refine ⟨by omega, ?_⟩ | refine ⟨True.intro, ?_⟩)))))
  refine awp_loop (rfI l h) (fun s => l.length - s.val) ⟨0, by omega⟩ ?_ (fun s => ?_)
  · unfold rfI
    refine Weak.list ?_ ?_; (all_goals simp (disch := omega) only [AllF, AllL, x9, j9, q9, exists_eq_left', Option.some.injEq, go_sem, seval, hd, cb, ruleD]); (all_goals (repeat' (with_reducible apply And.intro))); (all_goals try (first | exact j6 rfl | (refine q10 ?_; omega) | (refine j6 ?_; simp; done)))
  obtain ⟨i, hi⟩ := s
  unfold rfI
  have sc := bestH_succ l h i
  have lt := fun b => @bestH_lt l h i b
  by_cases hn : i < l.length
  · have r1 := rowR_at l i
    have lk : ∀ b, rowR l b = ruleD (l.getD b r0) := rowR_at l
    generalize l.getD i r0 = x at r1 sc
    have tc := Text_c x.mt
    unfold cb at tc
    cases hs : x.mt.sound
    · have hh : hasC x.mt h = false := by unfold hasC; rw [hs]; rfl
      rw [hs] at tc
      rw [hh] at sc
      simp only [Bool.false_eq_true, if_false] at tc sc
      have sc' : bestH l h (i + 1) = bestH l h i := by rw [sc]; cases bestH l h i <;> rfl
      (repeat (first | refine j0 ?_ | refine q7 rfl ?_ | refine z7 rfl ?_ | refine x6 ?_ | (refine x4 fun K hK => ?_) | (refine j4 (by kernel_rfl) (by kernel_rfl) fun K hK => ?_) | ((first | refine q6 ?_ | refine z6 ?_ | ((first | refine z2 (hK _ ?_) | refine j5 (hK _ _ (x5 (by kernel_rfl)) ?_)); clear hK K)); (first | show AWP _ _ _ _ _ | ((try simp only [q8]); first | show loopQ _ _ _ _ _ _ | show cutQ _ _ _ _ | show AWP _ _ _ _ _))) | ((first | refine z10 rfl rfl rfl ?_ | refine x10 rfl rfl rfl ?_); simp (maxSteps := 2000000) (disch := omega) only [go_sem, seval, hd, cb, ruleD, r1]; (first | refine ⟨_, tc, ?_⟩)) | ((first | refine x7 [] rfl ?_ | refine j7 [] rfl ?_); simp (maxSteps := 2000000) (disch := omega) only [go_sem, seval, hd, cb, ruleD, r1]; (repeat (first | refine ⟨by omega, ?_⟩ | refine ⟨True.intro, ?_⟩)))))
      refine ⟨⟨i + 1, by omega⟩, by simp only []; omega, ?_⟩
      simp only [sc']
      refine Weak.list ?_ ?_; (all_goals simp (disch := omega) only [AllF, AllL, x9, j9, q9, exists_eq_left', Option.some.injEq, go_sem, seval, hd, cb, ruleD, r1]); (all_goals (repeat' (with_reducible apply And.intro))); (all_goals try (first | exact j6 rfl | (refine q10 ?_; omega) | (refine j6 ?_; simp; done)))
    · rw [hs] at tc
      simp only [if_true] at tc
      have hc := Hast_c x.mt h
      rw [hasT_sound hs] at hc
      cases hh : hasC x.mt h
      · rw [hh] at sc hc
        simp only [Bool.false_eq_true, if_false] at sc
        have sc' : bestH l h (i + 1) = bestH l h i := by rw [sc]; cases bestH l h i <;> rfl
        generalize txt x.mt = tx at tc hc
        (repeat (first | refine j0 ?_ | refine q7 rfl ?_ | refine z7 rfl ?_ | refine x6 ?_ | (refine x4 fun K hK => ?_) | (refine j4 (by kernel_rfl) (by kernel_rfl) fun K hK => ?_) | ((first | refine q6 ?_ | refine z6 ?_ | ((first | refine z2 (hK _ ?_) | refine j5 (hK _ _ (x5 (by kernel_rfl)) ?_)); clear hK K)); (first | show AWP _ _ _ _ _ | ((try simp only [q8]); first | show loopQ _ _ _ _ _ _ | show cutQ _ _ _ _ | show AWP _ _ _ _ _))) | ((first | refine z10 rfl rfl rfl ?_ | refine x10 rfl rfl rfl ?_); simp (maxSteps := 2000000) (disch := omega) only [go_sem, seval, hd, cb, ruleD, r1]; (first | refine ⟨_, tc, ?_⟩ | refine ⟨_, hc, ?_⟩)) | ((first | refine x7 [] rfl ?_ | refine j7 [] rfl ?_); simp (maxSteps := 2000000) (disch := omega) only [go_sem, seval, hd, cb, ruleD, r1]; (repeat (first | refine ⟨by omega, ?_⟩ | refine ⟨True.intro, ?_⟩)))))
        refine ⟨⟨i + 1, by omega⟩, by simp only []; omega, ?_⟩
        simp only [sc']
        refine Weak.list ?_ ?_; (all_goals simp (disch := omega) only [AllF, AllL, x9, j9, q9, exists_eq_left', Option.some.injEq, go_sem, seval, hd, cb, ruleD, r1]); (all_goals (repeat' (with_reducible apply And.intro))); (all_goals try (first | exact j6 rfl | (refine q10 ?_; omega) | (refine j6 ?_; simp; done)))
      · rw [hh] at sc hc
        simp only [if_true] at sc
        generalize txt x.mt = tx at tc hc
        cases hb : bestH l h i with
        | none =>
          rw [hb] at sc
          simp only [] at sc
          (repeat (first | refine j0 ?_ | refine q7 rfl ?_ | refine z7 rfl ?_ | refine x6 ?_ | (refine x4 fun K hK => ?_) | (refine j4 (by kernel_rfl) (by kernel_rfl) fun K hK => ?_) | ((first | refine q6 ?_ | refine z6 ?_ | ((first | refine z2 (hK _ ?_) | refine j5 (hK _ _ (x5 (by kernel_rfl)) ?_)); clear hK K)); (first | show AWP _ _ _ _ _ | ((try simp only [q8]); first | show loopQ _ _ _ _ _ _ | show cutQ _ _ _ _ | show AWP _ _ _ _ _))) | ((first | refine z10 rfl rfl rfl ?_ | refine x10 rfl rfl rfl ?_); simp (maxSteps := 2000000) (disch := omega) only [go_sem, seval, hd, cb, ruleD, r1, bestI]; (first | refine ⟨_, tc, ?_⟩ | refine ⟨_, hc, ?_⟩)) | ((first | refine x7 [] rfl ?_ | refine j7 [] rfl ?_); simp (maxSteps := 2000000) (disch := omega) only [go_sem, seval, hd, cb, ruleD, r1, bestI]; (repeat (first | refine ⟨by omega, ?_⟩ | refine ⟨True.intro, ?_⟩)))))
          refine ⟨⟨i + 1, by omega⟩, by simp only []; omega, ?_⟩
          simp only [sc]
          refine Weak.list ?_ ?_; (all_goals simp (disch := omega) only [AllF, AllL, x9, j9, q9, exists_eq_left', Option.some.injEq, go_sem, seval, hd, cb, ruleD, r1, bestI]); (all_goals (repeat' (with_reducible apply And.intro))); (all_goals try (first | exact j6 rfl | (refine q10 ?_; omega) | (refine j6 ?_; simp; done)))
        | some b =>
          have hlt := lt b hb
          rw [hb] at sc
          simp only [] at sc
          have r2 := lk b
          generalize l.getD b r0 = y at r2 sc
          by_cases hp : y.pr < x.pr
          · rw [if_pos hp] at sc
            (repeat (first | refine j0 ?_ | refine q7 rfl ?_ | refine z7 rfl ?_ | refine x6 ?_ | (refine x4 fun K hK => ?_) | (refine j4 (by kernel_rfl) (by kernel_rfl) fun K hK => ?_) | ((first | refine q6 ?_ | refine z6 ?_ | ((first | refine z2 (hK _ ?_) | refine j5 (hK _ _ (x5 (by kernel_rfl)) ?_)); clear hK K)); (first | show AWP _ _ _ _ _ | ((try simp only [q8]); first | show loopQ _ _ _ _ _ _ | show cutQ _ _ _ _ | show AWP _ _ _ _ _))) | ((first | refine z10 rfl rfl rfl ?_ | refine x10 rfl rfl rfl ?_); simp (maxSteps := 2000000) (disch := omega) only [go_sem, seval, hd, cb, ruleD, r1, r2, bestI]; (first | refine ⟨_, tc, ?_⟩ | refine ⟨_, hc, ?_⟩)) | ((first | refine x7 [] rfl ?_ | refine j7 [] rfl ?_); simp (maxSteps := 2000000) (disch := omega) only [go_sem, seval, hd, cb, ruleD, r1, r2, bestI]; (repeat (first | refine ⟨by omega, ?_⟩ | refine ⟨True.intro, ?_⟩)))))
            refine ⟨⟨i + 1, by omega⟩, by simp only []; omega, ?_⟩
            simp only [sc]
            refine Weak.list ?_ ?_; (all_goals simp (disch := omega) only [AllF, AllL, x9, j9, q9, exists_eq_left', Option.some.injEq, go_sem, seval, hd, cb, ruleD, r1, r2, bestI]); (all_goals (repeat' (with_reducible apply And.intro))); (all_goals try (first | exact j6 rfl | (refine q10 ?_; omega) | (refine j6 ?_; simp; done)))
          · rw [if_neg hp] at sc
            (repeat (first | refine j0 ?_ | refine q7 rfl ?_ | refine z7 rfl ?_ | refine x6 ?_ | (refine x4 fun K hK => ?_) | (refine j4 (by kernel_rfl) (by kernel_rfl) fun K hK => ?_) | ((first | refine q6 ?_ | refine z6 ?_ | ((first | refine z2 (hK _ ?_) | refine j5 (hK _ _ (x5 (by kernel_rfl)) ?_)); clear hK K)); (first | show AWP _ _ _ _ _ | ((try simp only [q8]); first | show loopQ _ _ _ _ _ _ | show cutQ _ _ _ _ | show AWP _ _ _ _ _))) | ((first | refine z10 rfl rfl rfl ?_ | refine x10 rfl rfl rfl ?_); simp (maxSteps := 2000000) (disch := omega) only [go_sem, seval, hd, cb, ruleD, r1, r2, bestI]; (first | refine ⟨_, tc, ?_⟩ | refine ⟨_, hc, ?_⟩)) | ((first | refine x7 [] rfl ?_ | refine j7 [] rfl ?_); simp (maxSteps := 2000000) (disch := omega) only [go_sem, seval, hd, cb, ruleD, r1, r2, bestI]; (repeat (first | refine ⟨by omega, ?_⟩ | refine ⟨True.intro, ?_⟩)))))
            refine ⟨⟨i + 1, by omega⟩, by simp only []; omega, ?_⟩
            simp only [sc]
            refine Weak.list ?_ ?_; (all_goals simp (disch := omega) only [AllF, AllL, x9, j9, q9, exists_eq_left', Option.some.injEq, go_sem, seval, hd, cb, ruleD, r1, r2, bestI]); (all_goals (repeat' (with_reducible apply And.intro))); (all_goals try (first | exact j6 rfl | (refine q10 ?_; omega) | (refine j6 ?_; simp; done)))
  · have : i = l.length := by omega
    subst this
    cases hb : bestH l h l.length with
    | none =>
      (repeat (first | refine j0 ?_ | refine q7 rfl ?_ | refine z7 rfl ?_ | refine x6 ?_ | (refine x4 fun K hK => ?_) | (refine j4 (by kernel_rfl) (by kernel_rfl) fun K hK => ?_) | ((first | refine q6 ?_ | refine z6 ?_ | ((first | refine z2 (hK _ ?_) | refine j5 (hK _ _ (x5 (by kernel_rfl)) ?_)); clear hK K)); (first | show AWP _ _ _ _ _ | ((try simp only [q8]); first | show loopQ _ _ _ _ _ _ | show cutQ _ _ _ _ | show AWP _ _ _ _ _))) | ((first | refine x7 [] rfl ?_ | refine j7 [] rfl ?_); simp (maxSteps := 2000000) (disch := omega) only [go_sem, seval, hd, cb, ruleD, bestI]; (repeat (first | refine ⟨by omega, ?_⟩ | refine ⟨True.intro, ?_⟩)))))
      refine z8 ⟨_, ?_, rfl⟩; rw [Try.results16]; simp (disch := omega) only [ResVars, ResVar, ptrLoc, go_sem, seval, hd, cb, ruleD, bestI]
    | some b =>
      have q : decide ((b : Int) < 0) = false := decide_eq_false (by omega)
      (repeat (first | refine j0 ?_ | refine q7 rfl ?_ | refine z7 rfl ?_ | refine x6 ?_ | (refine x4 fun K hK => ?_) | (refine j4 (by kernel_rfl) (by kernel_rfl) fun K hK => ?_) | ((first | refine q6 ?_ | refine z6 ?_ | ((first | refine z2 (hK _ ?_) | refine j5 (hK _ _ (x5 (by kernel_rfl)) ?_)); clear hK K)); (first | show AWP _ _ _ _ _ | ((try simp only [q8]); first | show loopQ _ _ _ _ _ _ | show cutQ _ _ _ _ | show AWP _ _ _ _ _))) | ((first | refine x7 [] rfl ?_ | refine j7 [] rfl ?_); simp (maxSteps := 2000000) (disch := omega) only [go_sem, seval, hd, cb, ruleD, bestI]; (repeat (first | refine ⟨by omega, ?_⟩ | refine ⟨True.intro, ?_⟩)))))
      refine z8 ⟨_, ?_, rfl⟩; rw [Try.results16]; simp (disch := omega) only [ResVars, ResVar, ptrLoc, go_sem, seval, hd, cb, ruleD, bestI]
theorem find_best (l : List Rule) (h : BitVec 128) : findR l h = bestH l h l.length := by
  have sp := bestTo_spec (fun i => !hasC (l.getD i r0).mt h) (fun i => l.getD i r0) l.length
  unfold findR bestH
  have go : ∀ o : List Nat, o.Pairwise (ltR l) → (∀ q, q < l.length → hasC (l.getD q r0).mt h = true → q ∈ o) → (∀ q ∈ o, q < l.length) → findO l h o = bestTo (fun i => !hasC (l.getD i r0).mt h) (fun i => l.getD i r0) l.length := by
    intro o
    induction o with
    | nil =>
      intro _ h2 _
      unfold findO
      cases hb : bestTo (fun i => !hasC (l.getD i r0).mt h) (fun i => l.getD i r0) l.length with
      | none => rfl
      | some p =>
        rw [hb] at sp
        have := h2 p sp.1 (by simpa using sp.2.1)
        cases this
    | cons n r ih =>
      intro h1 h2 h3
      obtain ⟨p1, p2⟩ := List.pairwise_cons.1 h1
      unfold findO
      cases hn : hasC (l.getD n r0).mt h
      · simp only [Bool.false_eq_true, if_false]
        refine ih p2 (fun q hq hq2 => ?_) (fun q hq => h3 q (by simp [hq]))
        rcases List.mem_cons.1 (h2 q hq hq2) with e | e
        · subst e; rw [hn] at hq2; cases hq2
        · exact e
      · simp only [if_true]
        cases hb : bestTo (fun i => !hasC (l.getD i r0).mt h) (fun i => l.getD i r0) l.length with
        | none =>
          rw [hb] at sp
          have := sp n (h3 n (by simp))
          rw [hn] at this; cases this
        | some p =>
          rw [hb] at sp
          obtain ⟨s1, s2, s3⟩ := sp
          have hp : hasC (l.getD p r0).mt h = true := by simpa using s2
          rcases List.mem_cons.1 (h2 p s1 hp) with e | e
          · rw [e]
          · have l1 := p1 p e
            have := s3 n (h3 n (by simp)) (by rw [hn]; rfl)
            unfold ltR at l1
            omega
  exact go _ (orderR_srt l) (fun q hq _ => orderR_mem.2 hq) (fun q hq => orderR_lt hq)
def rsI (l : List Rule) (n : Nat) (i : {i : Nat // i ≤ (orderR l).idxOf n}) : ASt :=
  ⟨[(7, .p (.d (.v (.int .i64 (i.val : Int))))), (6, .p (.d (.sl 1 l.length (rowI (orderR l))))), (1, .p (.d (.v (.int .i64 (n : Int))))), (0, .p (.d (.sl 12 l.length (rowR l))))], []⟩
end Go.Proofs.Ytbiildleaelodaa
set_option linter.unusedSimpArgs false
set_option linter.unusedVariables false
namespace Go.Proofs.Ytbiildleaelodaa
open Go.Proofs.Ytbiildleaelodaa.AL
def oneR (ts : List (List Rule)) (n : Int) (h : BitVec 128) : Option Nat := if n < 0 ∨ (ts.length : Int) ≤ n then none else findR (ts.getD n.toNat []) h
def oneH (ts : List (List Rule)) (n : Int) (h : BitVec 128) : BitVec 128 := match oneR ts n h with
  | some r => setH h ((ts.getD n.toNat []).getD r r0).st
  | none => 0
theorem findR_lt {l : List Rule} {h : BitVec 128} {a : Nat} (e : findR l h = some a) : a < l.length := by
  rw [find_best] at e
  exact bestH_lt e
set_option maxRecDepth 100000 in
set_option maxHeartbeats 4000000 in
theorem One_c (ts : List (List Rule)) (n : Int) (h : BitVec 128) (ht : smallR ts) : ACalls Try.prog 34 [.d (.sl 1 ts.length (rowRR ts)), .d (.v (.int .i64 n)), .agg (hd h)]
    (· = [.d (.v (.int .i64 (((oneR ts n h).getD 0 : Nat) : Int))), .agg (hd (oneH ts n h)), .d (.v (.bool (oneR ts n h).isSome))]) := by
  have hs := ht.1
  have z1 : hd 0#128 = [.v (.int .u64 0), .v (.int .u64 0)] := by unfold hd; rw [hi0, lo0]
  unfold oneH
  by_cases h1 : n < 0 ∨ (ts.length : Int) ≤ n
  · have e : oneR ts n h = none := by unfold oneR; rw [if_pos h1]
    rw [e]
    simp only [Option.getD_none, Option.isSome_none]
    rw [show hd (0 : BitVec 128) = hd 0#128 from rfl, z1]
    by_cases h2 : n < 0
    · refine j10 Try.func34 rfl (by decide +kernel) (by rw [Try.ntmps34]; simp) ?_; rw [Try.ntmps34]; simp only [frOf]
      (repeat (first | refine j0 ?_ | refine q7 rfl ?_ | refine z7 rfl ?_ | refine x6 ?_ | (refine x4 fun K hK => ?_) | (refine j4 (by kernel_rfl) (by kernel_rfl) fun K hK => ?_) | ((first | refine q6 ?_ | refine z6 ?_ | ((first | refine z2 (hK _ ?_) | refine j5 (hK _ _ (x5 (by kernel_rfl)) ?_)); clear hK K)); (first | show AWP _ _ _ _ _ | ((try simp only [q8]); first | show loopQ _ _ _ _ _ _ | show cutQ _ _ _ _ | show AWP _ _ _ _ _))) | ((first | refine x7 [] rfl ?_ | refine j7 [] rfl ?_); simp (maxSteps := 2000000) (disch := omega) only [go_sem, seval, hd, cb, ruleD, portD]; (repeat (first | refine ⟨by omega, ?_⟩ | refine ⟨True.intro, ?_⟩)))))
      refine z8 ⟨_, ?_, rfl⟩; rw [Try.results34]; simp (disch := omega) only [ResVars, ResVar, ptrLoc, go_sem, seval, hd, cb, ruleD, portD]
      first | done | rfl | exact ⟨rfl, rfl⟩
    · refine j10 Try.func34 rfl (by decide +kernel) (by rw [Try.ntmps34]; simp) ?_; rw [Try.ntmps34]; simp only [frOf]
      (repeat (first | refine j0 ?_ | refine q7 rfl ?_ | refine z7 rfl ?_ | refine x6 ?_ | (refine x4 fun K hK => ?_) | (refine j4 (by kernel_rfl) (by kernel_rfl) fun K hK => ?_) | ((first | refine q6 ?_ | refine z6 ?_ | ((first | refine z2 (hK _ ?_) | refine j5 (hK _ _ (x5 (by kernel_rfl)) ?_)); clear hK K)); (first | show AWP _ _ _ _ _ | ((try simp only [q8]); first | show loopQ _ _ _ _ _ _ | show cutQ _ _ _ _ | show AWP _ _ _ _ _))) | ((first | refine x7 [] rfl ?_ | refine j7 [] rfl ?_); simp (maxSteps := 2000000) (disch := omega) only [go_sem, seval, hd, cb, ruleD, portD]; (repeat (first | refine ⟨by omega, ?_⟩ | refine ⟨True.intro, ?_⟩)))))
      refine z8 ⟨_, ?_, rfl⟩; rw [Try.results34]; simp (disch := omega) only [ResVars, ResVar, ptrLoc, go_sem, seval, hd, cb, ruleD, portD]
      first | done | rfl | exact ⟨rfl, rfl⟩
  · obtain ⟨m, rfl⟩ : ∃ m : Nat, n = (m : Int) := ⟨n.toNat, by omega⟩
    have e : oneR ts (m : Int) h = findR (ts.getD m []) h := by unfold oneR; rw [if_neg h1]; rfl
    rw [e, show ((m : Int)).toNat = m from rfl]
    have d1 : decide ((m : Int) < 0) = false := decide_eq_false (by omega)
    have d2 : decide ((m : Int) ≥ (ts.length : Int)) = false := decide_eq_false (by omega)
    have hm : m < ts.length := by omega
    have r1 := rowRR_at ts m
    have hb := smallR_at ht m
    generalize ts.getD m [] = l at r1 hb
    have kf := Find_c l h (by omega)
    have fl := @findR_lt l h
    cases hf : findR l h with
    | none =>
      rw [hf] at kf
      simp only [Option.getD_none, Option.isSome_none] at kf ⊢
      rw [show hd (0 : BitVec 128) = hd 0#128 from rfl, z1]
      refine j10 Try.func34 rfl (by decide +kernel) (by rw [Try.ntmps34]; simp) ?_; rw [Try.ntmps34]; simp only [frOf]
      (repeat (first | refine j0 ?_ | refine q7 rfl ?_ | refine z7 rfl ?_ | refine x6 ?_ | (refine x4 fun K hK => ?_) | (refine j4 (by kernel_rfl) (by kernel_rfl) fun K hK => ?_) | ((first | refine q6 ?_ | refine z6 ?_ | ((first | refine z2 (hK _ ?_) | refine j5 (hK _ _ (x5 (by kernel_rfl)) ?_)); clear hK K)); (first | show AWP _ _ _ _ _ | ((try simp only [q8]); first | show loopQ _ _ _ _ _ _ | show cutQ _ _ _ _ | show AWP _ _ _ _ _))) | ((first | refine z10 rfl rfl rfl ?_ | refine x10 rfl rfl rfl ?_); simp (maxSteps := 2000000) (disch := omega) only [go_sem, seval, hd, cb, ruleD, portD, d1, d2, r1]; (first | refine ⟨_, kf, ?_⟩)) | ((first | refine x7 [] rfl ?_ | refine j7 [] rfl ?_); simp (maxSteps := 2000000) (disch := omega) only [go_sem, seval, hd, cb, ruleD, portD, d1, d2, r1]; (repeat (first | refine ⟨by omega, ?_⟩ | refine ⟨True.intro, ?_⟩)))))
      refine z8 ⟨_, ?_, rfl⟩; rw [Try.results34]; simp (disch := omega) only [ResVars, ResVar, ptrLoc, go_sem, seval, hd, cb, ruleD, portD, d1, d2, r1]
      first | done | rfl | exact ⟨rfl, rfl⟩
    | some a =>
      have ha := fl hf
      rw [hf] at kf
      simp only [Option.getD_some, Option.isSome_some] at kf ⊢
      have r2 := rowR_at l a
      generalize l.getD a r0 = x at r2
      have ks := SetRule_c x h
      unfold ruleD at ks
      generalize setH h x.st = h' at ks
      refine j10 Try.func34 rfl (by decide +kernel) (by rw [Try.ntmps34]; simp) ?_; rw [Try.ntmps34]; simp only [frOf]
      (repeat (first | refine j0 ?_ | refine q7 rfl ?_ | refine z7 rfl ?_ | refine x6 ?_ | (refine x4 fun K hK => ?_) | (refine j4 (by kernel_rfl) (by kernel_rfl) fun K hK => ?_) | ((first | refine q6 ?_ | refine z6 ?_ | ((first | refine z2 (hK _ ?_) | refine j5 (hK _ _ (x5 (by kernel_rfl)) ?_)); clear hK K)); (first | show AWP _ _ _ _ _ | ((try simp only [q8]); first | show loopQ _ _ _ _ _ _ | show cutQ _ _ _ _ | show AWP _ _ _ _ _))) | ((first | refine z10 rfl rfl rfl ?_ | refine x10 rfl rfl rfl ?_); simp (maxSteps := 2000000) (disch := omega) only [go_sem, seval, hd, cb, ruleD, portD, d1, d2, r1, r2]; (first | refine ⟨_, kf, ?_⟩ | refine ⟨_, ks, ?_⟩)) | ((first | refine x7 [] rfl ?_ | refine j7 [] rfl ?_); simp (maxSteps := 2000000) (disch := omega) only [go_sem, seval, hd, cb, ruleD, portD, d1, d2, r1, r2]; (repeat (first | refine ⟨by omega, ?_⟩ | refine ⟨True.intro, ?_⟩)))))
      refine z8 ⟨_, ?_, rfl⟩; rw [Try.results34]; simp (disch := omega) only [ResVars, ResVar, ptrLoc, go_sem, seval, hd, cb, ruleD, portD, d1, d2, r1, r2]
      first | done | rfl | exact ⟨rfl, rfl⟩
end Go.Proofs.Ytbiildleaelodaa
set_option linter.unusedSimpArgs false
set_option linter.unusedVariables false
namespace Go.Proofs.Ytbiildleaelodaa
open Go.Proofs.Ytbiildleaelodaa.AL
def errF (f : Nat → Int) : Nat → Nat → Int
  | 0, _ => 0
  | m + 1, i => if f i = 0 then errF f m (i + 1) else f i
theorem errF_step {f : Nat → Int} {n i : Nat} (h : i < n) : errF f (n - i) i = if f i = 0 then errF f (n - (i + 1)) (i + 1) else f i := by
  rw [show n - i = (n - (i + 1)) + 1 by omega]; rfl
theorem errF_done {f : Nat → Int} {n i : Nat} (h : n ≤ i) : errF f (n - i) i = 0 := by
  rw [show n - i = 0 by omega]; rfl
def polE (c : Config) : Int := if sizesC c = false then 4 else if policyC c = false then 2 else 0
def tabE (c : Config) (i : Nat) : Int := soundTab (c.tb.getD i []) (c.tp.getD i [])
def soundC (c : Config) : Int := if soundT c.tp ≠ 0 then soundT c.tp else if polE c ≠ 0 then polE c else if c.tb.length ≠ c.tp.length then 4 else errF (tabE c) c.tb.length 0
def soundCI (c : Config) (R : Int) (s : {i : Nat // i ≤ c.tb.length ∧ errF (tabE c) (c.tb.length - i) i = R}) : ASt :=
  ⟨[(33, .p (.d (.v (.int .i64 (s.val : Int))))), (32, .p (.d (.v (.int .i64 (c.tb.length : Int))))), (31, .p (.d (.sl 1 c.tb.length (rowTT c.tb)))), (1, .p (.d (.bx (configD c))))], []⟩
set_option maxRecDepth 100000 in
set_option maxHeartbeats 4000000 in
theorem SoundC_c (c : Config) (hc : c.small) : ACalls Try.prog 71 [.agg (configD c)] (· = [.d (.v (.int .i64 (soundC c)))]) := by
  have s1 := SoundT_c c.tp hc.tp
  have s2 := sizes_c c hc
  have s3 := policy_c c hc
  have htp := hc.tp
  have hat := hc.at
  have hb := hc.tb
  have hb2 := hc.tp.1
  unfold soundC polE
  simp only [topoD] at s1
  simp only [configD] at s2 s3
  generalize soundT c.tp = e1 at s1
  generalize sizesC c = b2 at s2
  generalize policyC c = b3 at s3
  by_cases h1 : e1 = 0
  · subst h1
    rw [if_neg (by decide)]
    cases b2
    · simp only [if_true]
      rw [if_pos (by decide)]
      refine j10 Try.func71 rfl (by decide +kernel) (by rw [Try.ntmps71]; simp) ?_; rw [Try.ntmps71]; simp only [frOf]
      (repeat (first | refine j0 ?_ | refine q7 rfl ?_ | refine z7 rfl ?_ | refine x6 ?_ | (refine x4 fun K hK => ?_) | (refine j4 (by kernel_rfl) (by kernel_rfl) fun K hK => ?_) | ((first | refine q6 ?_ | refine z6 ?_ | ((first | refine z2 (hK _ ?_) | refine j5 (hK _ _ (x5 (by kernel_rfl)) ?_)); clear hK K)); (first | show AWP _ _ _ _ _ | ((try simp only [q8]); first | show loopQ _ _ _ _ _ _ | show cutQ _ _ _ _ | show AWP _ _ _ _ _))) | ((first | refine z10 rfl rfl rfl ?_ | refine x10 rfl rfl rfl ?_); simp (maxSteps := 2000000) (disch := omega) only [go_sem, seval, policyD, wayD, pairD, spotD, topoD, configD, eqty80]; (first | refine ⟨_, s1, ?_⟩ | refine ⟨_, s2, ?_⟩ | refine ⟨_, s3, ?_⟩)) | ((first | refine x7 [] rfl ?_ | refine j7 [] rfl ?_); simp (maxSteps := 2000000) (disch := omega) only [go_sem, seval, policyD, wayD, pairD, spotD, topoD, configD, eqty80]; (repeat (first | refine ⟨by omega, ?_⟩ | refine ⟨True.intro, ?_⟩)))))
      refine z8 ⟨_, ?_, rfl⟩; rw [Try.results71]; simp (disch := omega) only [ResVars, ResVar, ptrLoc, go_sem, seval, policyD, wayD, pairD, spotD, topoD, configD, eqty80]
    · cases b3
      · simp only [if_true, Bool.true_eq_false, if_false]
        rw [if_pos (by decide)]
        refine j10 Try.func71 rfl (by decide +kernel) (by rw [Try.ntmps71]; simp) ?_; rw [Try.ntmps71]; simp only [frOf]
        (repeat (first | refine j0 ?_ | refine q7 rfl ?_ | refine z7 rfl ?_ | refine x6 ?_ | (refine x4 fun K hK => ?_) | (refine j4 (by kernel_rfl) (by kernel_rfl) fun K hK => ?_) | ((first | refine q6 ?_ | refine z6 ?_ | ((first | refine z2 (hK _ ?_) | refine j5 (hK _ _ (x5 (by kernel_rfl)) ?_)); clear hK K)); (first | show AWP _ _ _ _ _ | ((try simp only [q8]); first | show loopQ _ _ _ _ _ _ | show cutQ _ _ _ _ | show AWP _ _ _ _ _))) | ((first | refine z10 rfl rfl rfl ?_ | refine x10 rfl rfl rfl ?_); simp (maxSteps := 2000000) (disch := omega) only [go_sem, seval, policyD, wayD, pairD, spotD, topoD, configD, eqty80]; (first | refine ⟨_, s1, ?_⟩ | refine ⟨_, s2, ?_⟩ | refine ⟨_, s3, ?_⟩)) | ((first | refine x7 [] rfl ?_ | refine j7 [] rfl ?_); simp (maxSteps := 2000000) (disch := omega) only [go_sem, seval, policyD, wayD, pairD, spotD, topoD, configD, eqty80]; (repeat (first | refine ⟨by omega, ?_⟩ | refine ⟨True.intro, ?_⟩)))))
        refine z8 ⟨_, ?_, rfl⟩; rw [Try.results71]; simp (disch := omega) only [ResVars, ResVar, ptrLoc, go_sem, seval, policyD, wayD, pairD, spotD, topoD, configD, eqty80]
      · simp only [if_true, Bool.true_eq_false, if_false]
        rw [if_neg (by decide)]
        by_cases h4 : c.tb.length = c.tp.length
        · rw [if_neg (by omega)]
          have q : ((c.tb.length : Int) != (c.tp.length : Int)) = false := ine_ff (by omega)
          generalize hR : errF (tabE c) c.tb.length 0 = R
          refine j10 Try.func71 rfl (by decide +kernel) (by rw [Try.ntmps71]; simp) ?_; rw [Try.ntmps71]; simp only [frOf]
          (repeat (first | refine j0 ?_ | refine q7 rfl ?_ | refine z7 rfl ?_ | refine x6 ?_ | (refine x4 fun K hK => ?_) | (refine j4 (by kernel_rfl) (by kernel_rfl) fun K hK => ?_) | ((first | refine q6 ?_ | refine z6 ?_ | ((first | refine z2 (hK _ ?_) | refine j5 (hK _ _ (x5 (by kernel_rfl)) ?_)); clear hK K)); (first | show AWP _ _ _ _ _ | ((try simp only [q8]); first | show loopQ _ _ _ _ _ _ | show cutQ _ _ _ _ | show AWP _ _ _ _ _))) | ((first | refine z10 rfl rfl rfl ?_ | refine x10 rfl rfl rfl ?_); simp (maxSteps := 2000000) (disch := omega) only [go_sem, seval, policyD, wayD, pairD, spotD, topoD, configD, eqty80, q]; (first | refine ⟨_, s1, ?_⟩ | refine ⟨_, s2, ?_⟩ | refine ⟨_, s3, ?_⟩)) | ((first | refine x7 [] rfl ?_ | refine j7 [] rfl ?_); simp (maxSteps := 2000000) (disch := omega) only [go_sem, seval, policyD, wayD, pairD, spotD, topoD, configD, eqty80, q]; (repeat (first | refine ⟨by omega, ?_⟩ | refine ⟨True.intro, ?_⟩)))))
          refine awp_loop (soundCI c R) (fun s => c.tb.length - s.val) ⟨0, Nat.zero_le _, hR⟩ ?_ (fun s => ?_)
          · unfold soundCI
            refine Weak.list ?_ ?_; (all_goals simp (disch := omega) only [AllF, AllL, x9, j9, q9, exists_eq_left', Option.some.injEq, go_sem, seval, policyD, wayD, pairD, spotD, topoD, configD, eqty80]); (all_goals (repeat' (with_reducible apply And.intro))); (all_goals try (first | exact j6 rfl | (refine q10 ?_; omega) | (refine j6 ?_; simp; done)))
          obtain ⟨i, hi, hr⟩ := s
          unfold soundCI
          simp only [] at hi hr ⊢
          by_cases h : i < c.tb.length
          · rw [errF_step h] at hr
            have r1 := rowTT_at c.tb i
            have r2 := rowPP_at c.tp i
            have ct := SoundTab_c (c.tb.getD i []) (c.tp.getD i []) (hat i) (small_at htp i)
            have hte : tabE c i = soundTab (c.tb.getD i []) (c.tp.getD i []) := rfl
            rw [hte] at hr
            have l1 := small_at htp i
            have l2 := (hat i).1
            generalize soundTab (c.tb.getD i []) (c.tp.getD i []) = e at hr ct
            generalize c.tb.getD i [] = ts at r1 ct l2
            generalize c.tp.getD i [] = ps at r2 ct l1
            by_cases he : e = 0
            · subst he
              rw [if_pos rfl] at hr
              (repeat (first | refine j0 ?_ | refine q7 rfl ?_ | refine z7 rfl ?_ | refine x6 ?_ | (refine x4 fun K hK => ?_) | (refine j4 (by kernel_rfl) (by kernel_rfl) fun K hK => ?_) | ((first | refine q6 ?_ | refine z6 ?_ | ((first | refine z2 (hK _ ?_) | refine j5 (hK _ _ (x5 (by kernel_rfl)) ?_)); clear hK K)); (first | show AWP _ _ _ _ _ | ((try simp only [q8]); first | show loopQ _ _ _ _ _ _ | show cutQ _ _ _ _ | show AWP _ _ _ _ _))) | ((first | refine z10 rfl rfl rfl ?_ | refine x10 rfl rfl rfl ?_); simp (maxSteps := 2000000) (disch := omega) only [go_sem, seval, policyD, wayD, pairD, spotD, topoD, configD, eqty80, r1, r2]; (first | refine ⟨_, ct, ?_⟩)) | ((first | refine x7 [] rfl ?_ | refine j7 [] rfl ?_); simp (maxSteps := 2000000) (disch := omega) only [go_sem, seval, policyD, wayD, pairD, spotD, topoD, configD, eqty80, r1, r2]; (repeat (first | refine ⟨by omega, ?_⟩ | refine ⟨True.intro, ?_⟩)))))
              refine ⟨⟨i + 1, by omega, hr⟩, by simp only []; omega, ?_⟩
              refine Weak.list ?_ ?_; (all_goals simp (disch := omega) only [AllF, AllL, x9, j9, q9, exists_eq_left', Option.some.injEq, go_sem, seval, policyD, wayD, pairD, spotD, topoD, configD, eqty80, r1, r2]); (all_goals (repeat' (with_reducible apply And.intro))); (all_goals try (first | exact j6 rfl | (refine q10 ?_; omega) | (refine j6 ?_; simp; done)))
            · rw [if_neg he] at hr
              have q2 : (e != 0) = true := ine_tt he
              subst hr
              (repeat (first | refine j0 ?_ | refine q7 rfl ?_ | refine z7 rfl ?_ | refine x6 ?_ | (refine x4 fun K hK => ?_) | (refine j4 (by kernel_rfl) (by kernel_rfl) fun K hK => ?_) | ((first | refine q6 ?_ | refine z6 ?_ | ((first | refine z2 (hK _ ?_) | refine j5 (hK _ _ (x5 (by kernel_rfl)) ?_)); clear hK K)); (first | show AWP _ _ _ _ _ | ((try simp only [q8]); first | show loopQ _ _ _ _ _ _ | show cutQ _ _ _ _ | show AWP _ _ _ _ _))) | ((first | refine z10 rfl rfl rfl ?_ | refine x10 rfl rfl rfl ?_); simp (maxSteps := 2000000) (disch := omega) only [go_sem, seval, policyD, wayD, pairD, spotD, topoD, configD, eqty80, r1, r2, q2]; (first | refine ⟨_, ct, ?_⟩)) | ((first | refine x7 [] rfl ?_ | refine j7 [] rfl ?_); simp (maxSteps := 2000000) (disch := omega) only [go_sem, seval, policyD, wayD, pairD, spotD, topoD, configD, eqty80, r1, r2, q2]; (repeat (first | refine ⟨by omega, ?_⟩ | refine ⟨True.intro, ?_⟩)))))
              refine z8 ⟨_, ?_, rfl⟩; rw [Try.results71]; simp (disch := omega) only [ResVars, ResVar, ptrLoc, go_sem, seval, policyD, wayD, pairD, spotD, topoD, configD, eqty80, r1, r2, q2]
          · rw [errF_done (show c.tb.length ≤ i by omega)] at hr
            subst hr
            (repeat (first | refine j0 ?_ | refine q7 rfl ?_ | refine z7 rfl ?_ | refine x6 ?_ | (refine x4 fun K hK => ?_) | (refine j4 (by kernel_rfl) (by kernel_rfl) fun K hK => ?_) | ((first | refine q6 ?_ | refine z6 ?_ | ((first | refine z2 (hK _ ?_) | refine j5 (hK _ _ (x5 (by kernel_rfl)) ?_)); clear hK K)); (first | show AWP _ _ _ _ _ | ((try simp only [q8]); first | show loopQ _ _ _ _ _ _ | show cutQ _ _ _ _ | show AWP _ _ _ _ _))) | ((first | refine x7 [] rfl ?_ | refine j7 [] rfl ?_); simp (maxSteps := 2000000) (disch := omega) only [go_sem, seval, policyD, wayD, pairD, spotD, topoD, configD, eqty80]; (repeat (first | refine ⟨by omega, ?_⟩ | refine ⟨True.intro, ?_⟩)))))
            refine z8 ⟨_, ?_, rfl⟩; rw [Try.results71]; simp (disch := omega) only [ResVars, ResVar, ptrLoc, go_sem, seval, policyD, wayD, pairD, spotD, topoD, configD, eqty80]
        · rw [if_pos h4]
          have q : ((c.tb.length : Int) != (c.tp.length : Int)) = true := ine_tt (by omega)
          refine j10 Try.func71 rfl (by decide +kernel) (by rw [Try.ntmps71]; simp) ?_; rw [Try.ntmps71]; simp only [frOf]
          (repeat (first | refine j0 ?_ | refine q7 rfl ?_ | refine z7 rfl ?_ | refine x6 ?_ | (refine x4 fun K hK => ?_) | (refine j4 (by kernel_rfl) (by kernel_rfl) fun K hK => ?_) | ((first | refine q6 ?_ | refine z6 ?_ | ((first | refine z2 (hK _ ?_) | refine j5 (hK _ _ (x5 (by kernel_rfl)) ?_)); clear hK K)); (first | show AWP _ _ _ _ _ | ((try simp only [q8]); first | show loopQ _ _ _ _ _ _ | show cutQ _ _ _ _ | show AWP _ _ _ _ _))) | ((first | refine z10 rfl rfl rfl ?_ | refine x10 rfl rfl rfl ?_); simp (maxSteps := 2000000) (disch := omega) only [go_sem, seval, policyD, wayD, pairD, spotD, topoD, configD, eqty80, q]; (first | refine ⟨_, s1, ?_⟩ | refine ⟨_, s2, ?_⟩ | refine ⟨_, s3, ?_⟩)) | ((first | refine x7 [] rfl ?_ | refine j7 [] rfl ?_); simp (maxSteps := 2000000) (disch := omega) only [go_sem, seval, policyD, wayD, pairD, spotD, topoD, configD, eqty80, q]; (repeat (first | refine ⟨by omega, ?_⟩ | refine ⟨True.intro, ?_⟩)))))
          refine z8 ⟨_, ?_, rfl⟩; rw [Try.results71]; simp (disch := omega) only [ResVars, ResVar, ptrLoc, go_sem, seval, policyD, wayD, pairD, spotD, topoD, configD, eqty80, q]
  · rw [if_pos h1]
    have q : (e1 != 0) = true := ine_tt h1
    refine j10 Try.func71 rfl (by decide +kernel) (by rw [Try.ntmps71]; simp) ?_; rw [Try.ntmps71]; simp only [frOf]
    (repeat (first | refine j0 ?_ | refine q7 rfl ?_ | refine z7 rfl ?_ | refine x6 ?_ | (refine x4 fun K hK => ?_) | (refine j4 (by kernel_rfl) (by kernel_rfl) fun K hK => ?_) | ((first | refine q6 ?_ | refine z6 ?_ | ((first | refine z2 (hK _ ?_) | refine j5 (hK _ _ (x5 (by kernel_rfl)) ?_)); clear hK K)); (first | show AWP _ _ _ _ _ | ((try simp only [q8]); first | show loopQ _ _ _ _ _ _ | show cutQ _ _ _ _ | show AWP _ _ _ _ _))) | ((first | refine z10 rfl rfl rfl ?_ | refine x10 rfl rfl rfl ?_); simp (maxSteps := 2000000) (disch := omega) only [go_sem, seval, policyD, wayD, pairD, spotD, topoD, configD, eqty80, q]; (first | refine ⟨_, s1, ?_⟩)) | ((first | refine x7 [] rfl ?_ | refine j7 [] rfl ?_); simp (maxSteps := 2000000) (disch := omega) only [go_sem, seval, policyD, wayD, pairD, spotD, topoD, configD, eqty80, q]; (repeat (first | refine ⟨by omega, ?_⟩ | refine ⟨True.intro, ?_⟩)))))
    refine z8 ⟨_, ?_, rfl⟩; rw [Try.results71]; simp (disch := omega) only [ResVars, ResVar, ptrLoc, go_sem, seval, policyD, wayD, pairD, spotD, topoD, configD, eqty80, q]
end Go.Proofs.Ytbiildleaelodaa
set_option linter.unusedSimpArgs false
set_option linter.unusedVariables false
namespace Go.Proofs.Ytbiildleaelodaa
open Go.Proofs.Ytbiildleaelodaa.AL
def spotI (l : List Spot) (x : Spot) (q : Nat → Bool) (R : Int) (s : {i : Nat // i ≤ l.length ∧ idxN q (l.length - i) i = R}) : ASt :=
  ⟨[(8, .p (.d (.v (.int .i64 (s.val : Int))))), (7, .p (.d (.v (.int .i64 (l.length : Int))))), (3, .p (.d (.bx (spotD x)))), (0, .p (.d (.sl 2 l.length (rowS l))))], []⟩
theorem eqI_spot (a b : Spot) : eqI [a.sw, a.po] [b.sw, b.po] = (a == b) := by
  obtain ⟨a1, a2⟩ := a
  obtain ⟨b1, b2⟩ := b
  rw [Bool.eq_iff_iff]
  simp [eqI]
set_option maxHeartbeats 1000000 in
theorem IndexS_c (l : List Spot) (x : Spot) (hl : l.length ≤ 1099511627776) :
    ACalls Try.prog 104 [.d (.sl 2 l.length (rowS l)), .agg (spotD x)] (· = [.d (.v (.int .i64 (idxN (fun i => x == l.getD i s0) l.length 0)))]) := by
  have hstep := fun i (h : i < l.length) => idxN_step (q := fun i => x == l.getD i s0) h
  have hq : ∀ i, (fun i => x == l.getD i s0) i = (x == l.getD i s0) := fun i => rfl
  generalize (fun i => x == l.getD i s0) = q at hstep hq
  generalize hR : idxN q l.length 0 = R
  refine j10 Try.func104 rfl (by decide +kernel) (by rw [Try.ntmps104]; simp) ?_; rw [Try.ntmps104]; simp only [frOf]
  (repeat (first | refine j0 ?_ | refine q7 rfl ?_ | refine z7 rfl ?_ | refine x6 ?_ | (refine x4 fun K hK => ?_) | (refine j4 (by kernel_rfl) (by kernel_rfl) fun K hK => ?_) | ((first | refine q6 ?_ | refine z6 ?_ | ((first | refine z2 (hK _ ?_) | refine j5 (hK _ _ (x5 (by kernel_rfl)) ?_)); clear hK K)); (first | show AWP _ _ _ _ _ | ((try simp only [q8]); first | show loopQ _ _ _ _ _ _ | show cutQ _ _ _ _ | show AWP _ _ _ _ _))) | ((first | refine x7 [] rfl ?_ | refine j7 [] rfl ?_); simp (maxSteps := 2000000) (disch := omega) only [go_sem, seval, policyD, wayD, spotD, eqty80]; (repeat (first | refine ⟨by omega, ?_⟩ | refine ⟨True.intro, ?_⟩)))))
  refine awp_loop (spotI l x q R) (fun s => l.length - s.val) ⟨0, Nat.zero_le _, hR⟩ ?_ (fun s => ?_)
  · unfold spotI
    refine Weak.list ?_ ?_; (all_goals simp (disch := omega) only [AllF, AllL, x9, j9, q9, exists_eq_left', Option.some.injEq, go_sem, seval, policyD, wayD, spotD, eqty80]); (all_goals (repeat' (with_reducible apply And.intro))); (all_goals try (first | exact j6 rfl | (refine q10 ?_; omega) | (refine j6 ?_; simp; done)))
  obtain ⟨i, h1, h2⟩ := s
  unfold spotI
  simp only [] at h1 h2 ⊢
  by_cases h : i < l.length
  · have r1 := rowS_at l i
    rw [hstep i h] at h2
    generalize l.getD i s0 = y at r1 h2
    have e := eqI_spot x y
    generalize (x == y) = b at e h2
    simp only [spotD] at r1
    cases b
    · simp only [Bool.false_eq_true, if_false] at h2
      (repeat (first | refine j0 ?_ | refine q7 rfl ?_ | refine z7 rfl ?_ | refine x6 ?_ | (refine x4 fun K hK => ?_) | (refine j4 (by kernel_rfl) (by kernel_rfl) fun K hK => ?_) | ((first | refine q6 ?_ | refine z6 ?_ | ((first | refine z2 (hK _ ?_) | refine j5 (hK _ _ (x5 (by kernel_rfl)) ?_)); clear hK K)); (first | show AWP _ _ _ _ _ | ((try simp only [q8]); first | show loopQ _ _ _ _ _ _ | show cutQ _ _ _ _ | show AWP _ _ _ _ _))) | ((first | refine x7 [] rfl ?_ | refine j7 [] rfl ?_); simp (maxSteps := 2000000) (disch := omega) only [go_sem, seval, policyD, wayD, spotD, eqty80, r1, e]; (repeat (first | refine ⟨by omega, ?_⟩ | refine ⟨True.intro, ?_⟩)))))
      refine ⟨⟨i + 1, by omega, h2⟩, by simp only []; omega, ?_⟩
      refine Weak.list ?_ ?_; (all_goals simp (disch := omega) only [AllF, AllL, x9, j9, q9, exists_eq_left', Option.some.injEq, go_sem, seval, policyD, wayD, spotD, eqty80, r1, e]); (all_goals (repeat' (with_reducible apply And.intro))); (all_goals try (first | exact j6 rfl | (refine q10 ?_; omega) | (refine j6 ?_; simp; done)))
    · simp only [if_true] at h2
      subst h2
      (repeat (first | refine j0 ?_ | refine q7 rfl ?_ | refine z7 rfl ?_ | refine x6 ?_ | (refine x4 fun K hK => ?_) | (refine j4 (by kernel_rfl) (by kernel_rfl) fun K hK => ?_) | ((first | refine q6 ?_ | refine z6 ?_ | ((first | refine z2 (hK _ ?_) | refine j5 (hK _ _ (x5 (by kernel_rfl)) ?_)); clear hK K)); (first | show AWP _ _ _ _ _ | ((try simp only [q8]); first | show loopQ _ _ _ _ _ _ | show cutQ _ _ _ _ | show AWP _ _ _ _ _))) | ((first | refine x7 [] rfl ?_ | refine j7 [] rfl ?_); simp (maxSteps := 2000000) (disch := omega) only [go_sem, seval, policyD, wayD, spotD, eqty80, r1, e]; (repeat (first | refine ⟨by omega, ?_⟩ | refine ⟨True.intro, ?_⟩)))))
      refine z8 ⟨_, ?_, rfl⟩; rw [Try.results104]; simp (disch := omega) only [ResVars, ResVar, ptrLoc, go_sem, seval, policyD, wayD, spotD, eqty80, r1, e]
  · rw [idxN_done (by omega)] at h2
    subst h2
    (repeat (first | refine j0 ?_ | refine q7 rfl ?_ | refine z7 rfl ?_ | refine x6 ?_ | (refine x4 fun K hK => ?_) | (refine j4 (by kernel_rfl) (by kernel_rfl) fun K hK => ?_) | ((first | refine q6 ?_ | refine z6 ?_ | ((first | refine z2 (hK _ ?_) | refine j5 (hK _ _ (x5 (by kernel_rfl)) ?_)); clear hK K)); (first | show AWP _ _ _ _ _ | ((try simp only [q8]); first | show loopQ _ _ _ _ _ _ | show cutQ _ _ _ _ | show AWP _ _ _ _ _))) | ((first | refine x7 [] rfl ?_ | refine j7 [] rfl ?_); simp (maxSteps := 2000000) (disch := omega) only [go_sem, seval, policyD, wayD, spotD, eqty80]; (repeat (first | refine ⟨by omega, ?_⟩ | refine ⟨True.intro, ?_⟩)))))
    refine z8 ⟨_, ?_, rfl⟩; rw [Try.results104]; simp (disch := omega) only [ResVars, ResVar, ptrLoc, go_sem, seval, policyD, wayD, spotD, eqty80]
theorem ContainsS_c (l : List Spot) (x : Spot) (hl : l.length ≤ 1099511627776) : ACalls Try.prog 72 [.d (.sl 2 l.length (rowS l)), .agg (spotD x)] (· = [.d (.v (.bool (l.contains x)))]) := by
  have c := IndexS_c l x hl
  have e := idxN_any (q := fun i => x == l.getD i s0) (m := l.length) (i := 0)
  rw [any_getD l s0 (fun y => x == y), List.any_beq] at e
  rw [← e]
  generalize idxN (fun i => x == l.getD i s0) l.length 0 = r at c
  simp only [spotD] at c
  refine j10 Try.func72 rfl (by decide +kernel) (by rw [Try.ntmps72]; simp) ?_; rw [Try.ntmps72]; simp only [frOf]
  (repeat (first | refine j0 ?_ | refine q7 rfl ?_ | refine z7 rfl ?_ | refine x6 ?_ | (refine x4 fun K hK => ?_) | (refine j4 (by kernel_rfl) (by kernel_rfl) fun K hK => ?_) | ((first | refine q6 ?_ | refine z6 ?_ | ((first | refine z2 (hK _ ?_) | refine j5 (hK _ _ (x5 (by kernel_rfl)) ?_)); clear hK K)); (first | show AWP _ _ _ _ _ | ((try simp only [q8]); first | show loopQ _ _ _ _ _ _ | show cutQ _ _ _ _ | show AWP _ _ _ _ _))) | ((first | refine z10 rfl rfl rfl ?_ | refine x10 rfl rfl rfl ?_); simp (maxSteps := 2000000) (disch := omega) only [go_sem, seval, policyD, wayD, spotD, eqty80]; (first | refine ⟨_, c, ?_⟩)) | ((first | refine x7 [] rfl ?_ | refine j7 [] rfl ?_); simp (maxSteps := 2000000) (disch := omega) only [go_sem, seval, policyD, wayD, spotD, eqty80]; (repeat (first | refine ⟨by omega, ?_⟩ | refine ⟨True.intro, ?_⟩)))))
  refine z8 ⟨_, ?_, rfl⟩; rw [Try.results72]; simp (disch := omega) only [ResVars, ResVar, ptrLoc, go_sem, seval, policyD, wayD, spotD, eqty80]
end Go.Proofs.Ytbiildleaelodaa
set_option linter.unusedSimpArgs false
set_option linter.unusedVariables false
namespace Go.Proofs.Ytbiildleaelodaa
open Go.Proofs.Ytbiildleaelodaa.AL
end Go.Proofs.Ytbiildleaelodaa
set_option linter.unusedSimpArgs false
set_option linter.unusedVariables false
namespace Go.Proofs.Ytbiildleaelodaa
open Go.Proofs.Ytbiildleaelodaa.AL
end Go.Proofs.Ytbiildleaelodaa
set_option linter.unusedSimpArgs false
set_option linter.unusedVariables false
namespace Go.Proofs.Ytbiildleaelodaa
open Go.Proofs.Ytbiildleaelodaa.AL
end Go.Proofs.Ytbiildleaelodaa
set_option linter.unusedSimpArgs false
set_option linter.unusedVariables false
namespace Go.Proofs.Ytbiildleaelodaa
open Go.Proofs.Ytbiildleaelodaa.AL
end Go.Proofs.Ytbiildleaelodaa
set_option linter.unusedSimpArgs false
set_option linter.unusedVariables false
namespace Go.Proofs.Ytbiildleaelodaa
open Go.Proofs.Ytbiildleaelodaa.AL
theorem ones_bit (n j : Nat) (hj : j < 128) : (ones n).getLsbD j = decide (j < n) := by
  unfold ones
  rw [BitVec.getLsbD_ofNat, Nat.testBit_two_pow_sub_one]
  simp [hj]
theorem bvi_ne (x : BitVec 64) : (bvi x != 0) = (x != 0) := by
  have := bvi_inj (a := x) (b := 0)
  rw [show bvi 0 = 0 from by decide] at this
  show (!(bvi x == 0)) = !(x == 0)
  rw [this]
theorem over_shift (b : Nat) (v : BitVec 64) (hb : b ≤ 64) : over b v = (decide (b < 64) && (bvi v / 2 ^ min b 64 != 0)) := by
  unfold over
  rw [shr_bvi]
  have e : lo (ones b) = bvi ((ones b).extractLsb' 0 64) := rfl
  rw [e, bits_andNot, bvi_ne, bvi_ne]
  have k1 : (v &&& ~~~((ones b).extractLsb' 0 64)) = 0 ↔ ∀ i, i < 64 → v.getLsbD i = true → i < b := by
    constructor
    · intro h i hi hv
      have := congrArg (fun z => z.getLsbD i) h
      simp only [BitVec.getLsbD_and, BitVec.getLsbD_not, BitVec.getLsbD_extractLsb', Nat.zero_add, ones_bit b i (by omega), hi, hv, decide_true, Bool.true_and] at this
      simpa using this
    · intro h
      apply BitVec.eq_of_getLsbD_eq
      intro i hi
      simp only [BitVec.getLsbD_and, BitVec.getLsbD_not, BitVec.getLsbD_extractLsb', Nat.zero_add, ones_bit b i (by omega), hi, decide_true, Bool.true_and]
      cases hv : v.getLsbD i
      · simp
      · simp [h i hi hv]
  have k2 : v >>> b = 0 ↔ ∀ i, i < 64 → v.getLsbD i = true → i < b := by
    constructor
    · intro h i hi hv
      refine Nat.lt_of_not_le fun hle => ?_
      have := congrArg (fun z => z.getLsbD (i - b)) h
      simp only [BitVec.getLsbD_ushiftRight, show b + (i - b) = i from by omega, hv] at this
      simp at this
    · intro h
      apply BitVec.eq_of_getLsbD_eq
      intro i hi
      rw [BitVec.getLsbD_ushiftRight]
      cases hv : v.getLsbD (b + i)
      · simp
      · have h1 : b + i < 64 := by
          refine Nat.lt_of_not_le fun hle => ?_
          rw [BitVec.getLsbD_of_ge v (b + i) hle] at hv; cases hv
        have := h (b + i) h1 hv; omega
  by_cases h64 : b < 64
  · rw [decide_eq_true h64, Bool.true_and]
    have : ((v &&& ~~~((ones b).extractLsb' 0 64)) = 0) = (v >>> b = 0) := propext (k1.trans k2.symm)
    rw [Bool.eq_iff_iff, bne_iff_ne, bne_iff_ne, ne_eq, ne_eq, this]
  · rw [decide_eq_false h64, Bool.false_and]
    have : (v &&& ~~~((ones b).extractLsb' 0 64)) = 0 := k1.2 fun i hi _ => by omega
    rw [this]; rfl
end Go.Proofs.Ytbiildleaelodaa
set_option linter.unusedSimpArgs false
set_option linter.unusedVariables false
namespace Go.Proofs.Ytbiildleaelodaa
open Go.Proofs.Ytbiildleaelodaa.AL
def wordOf (n : Int) : BitVec 64 := BitVec.ofNat 64 n.toNat
theorem wordOf_bvi {n : Int} (h1 : 0 ≤ n) (h2 : n < 9223372036854775808) : bvi (wordOf n) = n := by
  unfold bvi wordOf
  rw [BitVec.toNat_ofNat]
  omega
theorem over_small (b : Nat) (n : Int) (h1 : 0 ≤ n) (h2 : n < 2 ^ b) (hb : b ≤ 32) : over b (wordOf n) = false := by
  have hlt : n < 9223372036854775808 := Int.lt_of_lt_of_le h2 (by
    have : (2 : Int) ^ b ≤ 2 ^ 32 := by
      have h := Nat.pow_le_pow_right (show 1 ≤ 2 by decide) hb
      exact_mod_cast h
    omega)
  rw [over_shift b _ (by omega), wordOf_bvi h1 hlt, show min b 64 = b by omega, Int.ediv_eq_zero_of_lt h1 h2]
  simp
def stampV (tn v : Int) : Cube := mkC (putB (putB 0 88 24 (wordOf (tn + 1))) 112 8 (wordOf v)) (ones 40 <<< 88)
def edgesHas (t : List (List Port)) (s : Spot) : Bool := (edgesT t).contains s
def stampE (c : Config) (s : Spot) (v : Int) : Int := if soundC c ≠ 0 then soundC c else if v < 0 ∨ 255 < v then 4 else if edgesHas c.tp s = false then 7 else 0
def stampC (c : Config) (s : Spot) (v : Int) : Cube := if stampE c s v = 0 then stampV (edgeT c.tp s) v else ⟨0, 0⟩
theorem sound_ports {t : List (List Port)} (h : soundT t = 0) {i j : Nat} (hi : i < t.length) (hj : j < (t.getD i []).length) : portT t i j = true := by
  unfold soundT at h
  split at h
  · cases h
  · split at h
    · cases h
    · split at h
      · rename_i h3
        have h4 := allF_iff.1 h3 i (Nat.zero_le _) hi
        exact allF_iff.1 h4 j (Nat.zero_le _) hj
      · cases h
theorem sound_tenant {t : List (List Port)} (h : soundT t = 0) {s : Spot} (hs : s ∈ edgesT t) : 0 ≤ edgeT t s ∧ edgeT t s < 4 := by
  obtain ⟨i, j, e1, h1, h2, h3⟩ := edgesT_at hs
  obtain ⟨i', j', g1, g2, g3, g4⟩ := edgesTo_mem.1 hs
  have e2 : i' = i ∧ j' = j := by
    rw [e1] at g4
    have a1 := congrArg Spot.sw g4
    have a2 := congrArg Spot.po g4
    simp only [] at a1 a2
    omega
  obtain ⟨rfl, rfl⟩ := e2
  have hp := sound_ports h h1 h2
  rw [h3]
  unfold portT at hp
  simp only [] at hp
  rw [if_neg (by omega), if_pos g3] at hp
  simp only [Bool.and_eq_true, decide_eq_true_eq] at hp
  exact ⟨hp.1.1.1.1, hp.1.1.1.2⟩
theorem putE_small (a b n : Int) (h1 : 0 ≤ n) (h2 : n < 2 ^ b.toNat) (hb : b.toNat ≤ 32) (hf : fieldB a b 64 = true) : putE a b (wordOf n) = 0 := by
  unfold putE
  rw [hf, over_small b.toNat n h1 h2 hb]; rfl
theorem cb_none : cb ⟨0, 0⟩ = [.v (.int .u64 0), .v (.int .u64 0), .v (.int .u64 0), .v (.int .u64 0)] := by unfold cb; simp only [hi_zero, lo_zero]
set_option maxRecDepth 100000 in
set_option maxHeartbeats 4000000 in
theorem StampC_c (c : Config) (s : Spot) (v : Int) (hc : c.small) (hv : -9223372036854775808 ≤ v ∧ v < 9223372036854775808) : ACalls Try.prog 54 [.agg (configD c), .agg (spotD s), .d (.v (.int .i64 v))] (· = [.agg (cb (stampC c s v)), .d (.v (.int .i64 (stampE c s v)))]) := by
  have s1 := SoundC_c c hc
  have eb := edgesTo_len hc.tp c.tp.length
  have et := hc.tp.1
  rw [show edgesTo c.tp c.tp.length = edgesT c.tp from rfl] at eb
  have ed := EdgesT_c c.tp hc.tp
  have ct := ContainsS_c (edgesT c.tp) s (by omega)
  have fail : stampE c s v ≠ 0 → stampC c s v = ⟨0, 0⟩ := fun h => if_neg h
  simp only [configD] at s1
  simp only [topoD] at ed
  simp only [spotD] at ct
  have hst : stampE c s v = if soundC c ≠ 0 then soundC c else if v < 0 ∨ 255 < v then 4 else if (edgesT c.tp).contains s = false then 7 else 0 := rfl
  by_cases h1 : soundC c = 0
  · rw [if_neg (by omega)] at hst
    rw [h1] at s1
    by_cases h2 : v < 0 ∨ 255 < v
    · rw [if_pos h2] at hst
      rw [fail (by rw [hst]; decide), hst, cb_none]
      by_cases h3 : v < 0
      all_goals
        refine j10 Try.func54 rfl (by decide +kernel) (by rw [Try.ntmps54]; simp) ?_; rw [Try.ntmps54]; simp only [frOf]
        (repeat (first | refine j0 ?_ | refine q7 rfl ?_ | refine z7 rfl ?_ | refine x6 ?_ | (refine x4 fun K hK => ?_) | (refine j4 (by kernel_rfl) (by kernel_rfl) fun K hK => ?_) | ((first | refine q6 ?_ | refine z6 ?_ | ((first | refine z2 (hK _ ?_) | refine j5 (hK _ _ (x5 (by kernel_rfl)) ?_)); clear hK K)); (first | show AWP _ _ _ _ _ | ((try simp only [q8]); first | show loopQ _ _ _ _ _ _ | show cutQ _ _ _ _ | show AWP _ _ _ _ _))) | ((first | refine z10 rfl rfl rfl ?_ | refine x10 rfl rfl rfl ?_); simp (maxSteps := 2000000) (disch := omega) only [go_sem, seval, policyD, topoD, configD, spotD, hd, cb]; (first | refine ⟨_, s1, ?_⟩)) | ((first | refine x7 [] rfl ?_ | refine j7 [] rfl ?_); simp (maxSteps := 2000000) (disch := omega) only [go_sem, seval, policyD, topoD, configD, spotD, hd, cb]; (repeat (first | refine ⟨by omega, ?_⟩ | refine ⟨True.intro, ?_⟩)))))
        refine z8 ⟨_, ?_, rfl⟩; rw [Try.results54]; simp (disch := omega) only [ResVars, ResVar, ptrLoc, go_sem, seval, policyD, topoD, configD, spotD, hd, cb]
    · rw [if_neg h2] at hst
      cases hq : (edgesT c.tp).contains s
      · rw [hq] at ct
        rw [if_pos hq] at hst
        rw [fail (by rw [hst]; decide), hst, cb_none]
        generalize edgesT c.tp = l at ed ct
        refine j10 Try.func54 rfl (by decide +kernel) (by rw [Try.ntmps54]; simp) ?_; rw [Try.ntmps54]; simp only [frOf]
        (repeat (first | refine j0 ?_ | refine q7 rfl ?_ | refine z7 rfl ?_ | refine x6 ?_ | (refine x4 fun K hK => ?_) | (refine j4 (by kernel_rfl) (by kernel_rfl) fun K hK => ?_) | ((first | refine q6 ?_ | refine z6 ?_ | ((first | refine z2 (hK _ ?_) | refine j5 (hK _ _ (x5 (by kernel_rfl)) ?_)); clear hK K)); (first | show AWP _ _ _ _ _ | ((try simp only [q8]); first | show loopQ _ _ _ _ _ _ | show cutQ _ _ _ _ | show AWP _ _ _ _ _))) | ((first | refine z10 rfl rfl rfl ?_ | refine x10 rfl rfl rfl ?_); simp (maxSteps := 2000000) (disch := omega) only [go_sem, seval, policyD, topoD, configD, spotD, hd, cb]; (first | refine ⟨_, s1, ?_⟩ | refine ⟨_, ed, ?_⟩ | refine ⟨_, ct, ?_⟩)) | ((first | refine x7 [] rfl ?_ | refine j7 [] rfl ?_); simp (maxSteps := 2000000) (disch := omega) only [go_sem, seval, policyD, topoD, configD, spotD, hd, cb]; (repeat (first | refine ⟨by omega, ?_⟩ | refine ⟨True.intro, ?_⟩)))))
        refine z8 ⟨_, ?_, rfl⟩; rw [Try.results54]; simp (disch := omega) only [ResVars, ResVar, ptrLoc, go_sem, seval, policyD, topoD, configD, spotD, hd, cb]
      · rw [hq] at ct
        rw [if_neg (by rw [hq]; decide)] at hst
        have hs0 : soundT c.tp = 0 := by
          refine Classical.byContradiction fun h => ?_
          unfold soundC at h1
          rw [if_pos h] at h1
          exact h h1
        have hmem : s ∈ edgesT c.tp := by simpa using hq
        obtain ⟨tn1, tn2⟩ := sound_tenant hs0 hmem
        obtain ⟨i, j, e1, b1, b2, e2⟩ := edgesT_at hmem
        have hsc : stampC c s v = stampV (edgeT c.tp s) v := if_pos hst
        rw [hsc, hst]
        unfold stampV
        generalize edgeT c.tp s = tn at tn1 tn2 e2
        have hv0 : 0 ≤ v := by omega
        have p1 := Put_c 0 88 24 (wordOf (tn + 1)) (by omega)
        rw [putE_small 88 24 (tn + 1) (by omega) (by simp; omega) (by decide) (by decide), if_pos rfl, wordOf_bvi (by omega) (by omega)] at p1
        have p2 := Put_c (putB 0 (88 : Int).toNat (24 : Int).toNat (wordOf (tn + 1))) 112 8 (wordOf v) (by omega)
        rw [putE_small 112 8 v hv0 (by simp; omega) (by decide) (by decide), if_pos rfl, wordOf_bvi hv0 (by omega)] at p2
        have mk := Mask_c 88 40 (by omega)
        rw [show fieldB 88 40 128 = true from by decide, if_pos rfl, if_pos rfl] at mk
        generalize hk1 : ones (40 : Int).toNat <<< (88 : Int).toNat = care at mk
        generalize hk2 : putB 0 (88 : Int).toNat (24 : Int).toNat (wordOf (tn + 1)) = x1 at p1 p2
        generalize hk3 : putB x1 (112 : Int).toNat (8 : Int).toNat (wordOf v) = x2 at p2
        have km := Make_c x2 care
        have r1 := rowPP_at c.tp i
        have r2 := rowP_at (c.tp.getD i []) j
        have l1 := small_at hc.tp i
        generalize edgesT c.tp = l at ed ct
        generalize c.tp.getD i [] = ps at r1 r2 b2 e2 l1
        generalize ps.getD j p0 = p at r2 e2
        obtain ⟨kd, pt, pe, at', co⟩ := p
        simp only [portD] at r2
        simp only [] at e2
        subst e2
        subst e1
        simp only [hd] at p1 p2 mk km
        simp only [hi_zero, lo_zero] at p1
        refine j10 Try.func54 rfl (by decide +kernel) (by rw [Try.ntmps54]; simp) ?_; rw [Try.ntmps54]; simp only [frOf]
        (repeat (first | refine j0 ?_ | refine q7 rfl ?_ | refine z7 rfl ?_ | refine x6 ?_ | (refine x4 fun K hK => ?_) | (refine j4 (by kernel_rfl) (by kernel_rfl) fun K hK => ?_) | ((first | refine q6 ?_ | refine z6 ?_ | ((first | refine z2 (hK _ ?_) | refine j5 (hK _ _ (x5 (by kernel_rfl)) ?_)); clear hK K)); (first | show AWP _ _ _ _ _ | ((try simp only [q8]); first | show loopQ _ _ _ _ _ _ | show cutQ _ _ _ _ | show AWP _ _ _ _ _))) | ((first | refine z10 rfl rfl rfl ?_ | refine x10 rfl rfl rfl ?_); simp (maxSteps := 2000000) (disch := omega) only [go_sem, seval, policyD, topoD, configD, spotD, hd, cb, r1, r2]; (first | refine ⟨_, s1, ?_⟩ | refine ⟨_, ed, ?_⟩ | refine ⟨_, ct, ?_⟩ | refine ⟨_, mk, ?_⟩ | refine ⟨_, p1, ?_⟩ | refine ⟨_, p2, ?_⟩ | refine ⟨_, km, ?_⟩)) | ((first | refine x7 [] rfl ?_ | refine j7 [] rfl ?_); simp (maxSteps := 2000000) (disch := omega) only [go_sem, seval, policyD, topoD, configD, spotD, hd, cb, r1, r2]; (repeat (first | refine ⟨by omega, ?_⟩ | refine ⟨True.intro, ?_⟩)))))
        refine z8 ⟨_, ?_, rfl⟩; rw [Try.results54]; simp (disch := omega) only [ResVars, ResVar, ptrLoc, go_sem, seval, policyD, topoD, configD, spotD, hd, cb, r1, r2]
        subst hk3 hk2 hk1
        rfl
  · rw [if_pos h1] at hst
    rw [fail (by rw [hst]; exact h1), hst, cb_none]
    have q : (soundC c != 0) = true := ine_tt h1
    generalize soundC c = e at s1 q
    refine j10 Try.func54 rfl (by decide +kernel) (by rw [Try.ntmps54]; simp) ?_; rw [Try.ntmps54]; simp only [frOf]
    (repeat (first | refine j0 ?_ | refine q7 rfl ?_ | refine z7 rfl ?_ | refine x6 ?_ | (refine x4 fun K hK => ?_) | (refine j4 (by kernel_rfl) (by kernel_rfl) fun K hK => ?_) | ((first | refine q6 ?_ | refine z6 ?_ | ((first | refine z2 (hK _ ?_) | refine j5 (hK _ _ (x5 (by kernel_rfl)) ?_)); clear hK K)); (first | show AWP _ _ _ _ _ | ((try simp only [q8]); first | show loopQ _ _ _ _ _ _ | show cutQ _ _ _ _ | show AWP _ _ _ _ _))) | ((first | refine z10 rfl rfl rfl ?_ | refine x10 rfl rfl rfl ?_); simp (maxSteps := 2000000) (disch := omega) only [go_sem, seval, policyD, topoD, configD, spotD, hd, cb, q]; (first | refine ⟨_, s1, ?_⟩)) | ((first | refine x7 [] rfl ?_ | refine j7 [] rfl ?_); simp (maxSteps := 2000000) (disch := omega) only [go_sem, seval, policyD, topoD, configD, spotD, hd, cb, q]; (repeat (first | refine ⟨by omega, ?_⟩ | refine ⟨True.intro, ?_⟩)))))
    refine z8 ⟨_, ?_, rfl⟩; rw [Try.results54]; simp (disch := omega) only [ResVars, ResVar, ptrLoc, go_sem, seval, policyD, topoD, configD, spotD, hd, cb, q]
end Go.Proofs.Ytbiildleaelodaa
set_option linter.unusedSimpArgs false
set_option linter.unusedVariables false
namespace Go.Proofs.Ytbiildleaelodaa
open Go.Proofs.Ytbiildleaelodaa.AL
def portAt (t : List (List Port)) (n k : Nat) : Port := (t.getD n []).getD k p0
set_option maxRecDepth 100000 in
set_option maxHeartbeats 4000000 in
theorem Other_c (t : List (List Port)) (n k : Nat) (ht : small t) (hs : soundT t = 0) (hn : n < t.length) (hk : k < (t.getD n []).length) (hl : (portAt t n k).kd = 2) :
    ACalls Try.prog 79 [.agg (topoD t), .agg [.v (.int .i64 (n : Int)), .v (.int .i64 (k : Int))]] (· = [.agg [.v (.int .i64 (portAt t n k).pe), .v (.int .i64 (portAt t n k).at')], .d (.v (.bool true))]) := by
  have k1 := SoundT_c t ht
  rw [hs] at k1
  have r1 := rowPP_at t n
  have hb := small_at ht n
  unfold portAt at *
  generalize t.getD n [] = l at *
  have r2 : rowP l k = portD (l.getD k p0) := rfl
  generalize l.getD k p0 = p at *
  have q1 : (p.kd != 2) = false := ine_ff hl
  have hl1 := ht.1
  unfold topoD at *
  refine j10 Try.func79 rfl (by decide +kernel) (by rw [Try.ntmps79]; simp) ?_; rw [Try.ntmps79]; simp only [frOf]
  (repeat (first | refine j0 ?_ | refine q7 rfl ?_ | refine z7 rfl ?_ | refine x6 ?_ | (refine x4 fun K hK => ?_) | (refine j4 (by kernel_rfl) (by kernel_rfl) fun K hK => ?_) | ((first | refine q6 ?_ | refine z6 ?_ | ((first | refine z2 (hK _ ?_) | refine j5 (hK _ _ (x5 (by kernel_rfl)) ?_)); clear hK K)); (first | show AWP _ _ _ _ _ | ((try simp only [q8]); first | show loopQ _ _ _ _ _ _ | show cutQ _ _ _ _ | show AWP _ _ _ _ _))) | ((first | refine z10 rfl rfl rfl ?_ | refine x10 rfl rfl rfl ?_); simp (maxSteps := 2000000) (disch := omega) only [go_sem, seval, hd, cb, ruleD, portD, r1, r2, q1]; (first | refine ⟨_, k1, ?_⟩)) | ((first | refine x7 [] rfl ?_ | refine j7 [] rfl ?_); simp (maxSteps := 2000000) (disch := omega) only [go_sem, seval, hd, cb, ruleD, portD, r1, r2, q1]; (repeat (first | refine ⟨by omega, ?_⟩ | refine ⟨True.intro, ?_⟩)))))
  refine z8 ⟨_, ?_, rfl⟩; rw [Try.results79]; simp (disch := omega) only [ResVars, ResVar, ptrLoc, go_sem, seval, hd, cb, ruleD, portD, r1, r2, q1]
  first | done | rfl | exact ⟨rfl, rfl⟩
structure Hop where
  sw : Int
  tb : Int
  ru : Int
  h : BitVec 128
def hopD (x : Hop) : List Dat := [.v (.int .i64 x.sw), .v (.int .i64 x.tb), .v (.int .i64 x.ru), .v (.int .u64 (hi x.h)), .v (.int .u64 (lo x.h))]
def hop0 : Hop := ⟨0, 0, 0, 0⟩
def rowH (l : List Hop) : Nat → List Dat := fun i => hopD (l.getD i hop0)
theorem rowH_at (l : List Hop) (i : Nat) : rowH l i = hopD (l.getD i hop0) := rfl
theorem rowH_put (l : List Hop) (x : Hop) (i : Nat) (hlt : i < l.length + 1) : catF l.length (rowH l) (fun i => [hopD x].getD i []) i = rowH (l ++ [x]) i :=
  rowO_put hopD hop0 l x _ rfl i hlt
def wkC (c : Config) (n t : Int) (h : BitVec 128) (en an ap : Int) (hops : List Hop) : LV :=
  .cells 115 [.p (.d (.sl 1 c.tp.length (rowPP c.tp))), .p (.d (.v (.int .i64 c.po.tn))), .p (.d (.sl 2 c.po.peers.length (rowA c.po.peers))), .p (.d (.sl 3 c.po.ways.length (rowW c.po.ways))), .p (.d (.sl 1 c.tb.length (rowTT c.tb))),
    .p (.d (.v (.int .i64 n))), .p (.d (.v (.int .i64 t))), .p (.d (.v (.int .u64 (hi h)))), .p (.d (.v (.int .u64 (lo h)))), .p (.d (.v (.int .i64 en))), .p (.d (.v (.int .i64 an))), .p (.d (.v (.int .i64 ap))), .gr 1001 hops.length 5 hops.length (rowH hops)]
def wkL (c : Config) (n t : Int) (h : BitVec 128) (en an ap : Int) (hops : List Hop) : List (Nat × LV) := [(1000, wkC c n t h en an ap hops), (1001, .grow 92 5 hops.length hops.length)]
theorem wk_fin {A : ASt} {Q : Exit → ASt → Prop} {b : Bool} {c : Config} {n t : Int} {h : BitVec 128} {en an ap : Int} {hops : List Hop} {x : Hop} (h1 : AL.look A.fr 2 = some (.p (.d (.v (.bool b)))))
    (h2 : AL.look A.locs 1000 = some (.cells 115 [.p (.d (.sl 1 c.tp.length (rowPP c.tp))), .p (.d (.v (.int .i64 c.po.tn))), .p (.d (.sl 2 c.po.peers.length (rowA c.po.peers))), .p (.d (.sl 3 c.po.ways.length (rowW c.po.ways))), .p (.d (.sl 1 c.tb.length (rowTT c.tb))),
    .p (.d (.v (.int .i64 n))), .p (.d (.v (.int .i64 t))), .p (.d (.v (.int .u64 (hi h)))), .p (.d (.v (.int .u64 (lo h)))), .p (.d (.v (.int .i64 en))), .p (.d (.v (.int .i64 an))), .p (.d (.v (.int .i64 ap))), .gr 1001 (hops.length + 1) 5 (hops.length + 1) (catF hops.length (rowH hops) fun i => [hopD x].getD i [])]))
    (h3 : AL.look A.locs 1001 = some (.grow 92 5 (hops.length + 1) (hops.length + 1))) :
    (∀ A, retM Try.prog Try.f56 (fun rs M => rs = [.p (.d (.v (.bool b)))] ∧ M = wkL c n t h en an ap (hops ++ [x])) .ret A → Q .ret A) → AWP Try.prog 143 .ret Q A := by
  intro hQ
  have hl : (hops ++ [x]).length = hops.length + 1 := by simp
  refine awp_weak (A' := ⟨[(2, .p (.d (.v (.bool b))))], wkL c n t h en an ap (hops ++ [x])⟩) (Weak.list ⟨⟨_, h1, Le.refl _⟩, trivial⟩ ⟨⟨_, h2, ?_⟩, ⟨_, h3, lle_grow hl.symm hl.symm⟩, trivial⟩) (z8 (hQ _ (retM_of [_] (wkL c n t h en an ap (hops ++ [x])) ⟨rfl, trivial⟩ (fun p hp => ?_) ⟨rfl, rfl⟩)))
  · refine lle_cellsD ?_
    iterate 12 (refine LesD.cons (Le.refl _) ?_)
    exact .cons (le_grgr hl.symm hl.symm fun i hi => rowH_put hops x i hi) .nil
  · unfold wkL at hp ⊢
    simp only [List.mem_cons, List.not_mem_nil, or_false] at hp
    rcases hp with rfl | rfl <;> rfl
set_option maxRecDepth 100000 in
set_option maxHeartbeats 8000000 in
theorem step_none (c : Config) (n t : Nat) (h : BitVec 128) (hops : List Hop) (hc : c.small) (hn : n < c.tb.length) (ht : t < (c.tb.getD n []).length) (hk : hops.length ≤ 100000) (hf : findR ((c.tb.getD n []).getD t []) h = none) :
    MCalls Try.prog 56 [.loc 1000 0] (wkL c n t h 0 0 0 hops) (fun rs M => rs = [.p (.d (.v (.bool false)))] ∧ M = wkL c n t h 3 0 0 (hops ++ [⟨n, t, -1, h⟩])) := by
  have r1 := rowTT_at c.tb n
  have hs := hc.tb
  have ko := One_c (c.tb.getD n []) (t : Int) h (hc.at n)
  have e1 : oneR (c.tb.getD n []) (t : Int) h = none := by unfold oneR; rw [if_neg (by omega)]; exact hf
  have e2 : oneH (c.tb.getD n []) (t : Int) h = 0 := by unfold oneH; rw [e1]
  rw [e1, e2] at ko
  generalize c.tb.getD n [] = ts at *
  simp only [Option.getD_none, Option.isSome_none] at ko
  have fin := @wk_fin
  unfold wkL wkC at *
  refine mcalls_of_awp Try.func56 rfl (by decide +kernel) (by rw [Try.ntmps56]; simp) (fun l X h => by simp only [AL.look] at h; (repeat' split at h); all_goals first | omega | cases h) ?_; rw [Try.ntmps56]; simp only [frA]
  (repeat (first | refine j0 ?_ | refine q7 rfl ?_ | refine z7 rfl ?_ | refine x6 ?_ | (refine x4 fun K hK => ?_) | (refine j4 (by kernel_rfl) (by kernel_rfl) fun K hK => ?_) | ((first | refine q6 ?_ | refine z6 ?_ | ((first | refine z2 (hK _ ?_) | refine j5 (hK _ _ (x5 (by kernel_rfl)) ?_)); clear hK K)); (first | show AWP _ _ _ _ _ | ((try simp only [q8]); first | show loopQ _ _ _ _ _ _ | show cutQ _ _ _ _ | show AWP _ _ _ _ _))) | ((first | refine z10 rfl rfl rfl ?_ | refine x10 rfl rfl rfl ?_); simp (maxSteps := 2000000) (disch := omega) only [go_sem, seval, hd, cb, ruleD, portD, r1]; (first | refine ⟨_, ko, ?_⟩)) | ((first | refine x7 [6, 8, 9, 10] rfl ?_ | refine j7 [6, 8, 9, 10] rfl ?_); simp (maxSteps := 2000000) (disch := omega) only [go_sem, seval, hd, cb, ruleD, portD, r1]; (repeat (first | refine ⟨by omega, ?_⟩ | refine ⟨True.intro, ?_⟩)))))
  exact fin (b := false) (c := c) (n := n) (t := t) (h := h) (en := 3) (an := 0) (ap := 0) (hops := hops) (x := ⟨n, t, -1, h⟩) rfl rfl rfl fun _ h => h
def stepN (c : Config) (n : Nat) (x : Rule) : Int := if x.kd = 3 then (portAt c.tp n x.pt.toNat).pe else n
def stepT (t : Nat) (x : Rule) : Int := if x.kd = 3 then 0 else if x.kd = 4 then x.tb else t
def stepE (x : Rule) : Int := if x.kd = 4 then 0 else if x.kd = 3 then 0 else if x.kd = 2 then 2 else 1
def stepA (n : Nat) (x : Rule) : Int × Int := if x.kd = 2 then ((n : Int), x.pt) else (0, 0)
set_option maxRecDepth 100000 in
set_option maxHeartbeats 8000000 in
theorem step_some (c : Config) (n t a : Nat) (h : BitVec 128) (hops : List Hop) (x : Rule) (hc : c.small) (hts : soundT c.tp = 0) (hn : n < c.tb.length) (hnp : n < c.tp.length) (ht : t < (c.tb.getD n []).length) (hk : hops.length ≤ 100000)
    (hf : findR ((c.tb.getD n []).getD t []) h = some a) (hx : ((c.tb.getD n []).getD t []).getD a r0 = x) (hp : x.kd = 3 → 0 ≤ x.pt ∧ x.pt.toNat < (c.tp.getD n []).length ∧ (portAt c.tp n x.pt.toNat).kd = 2) :
    MCalls Try.prog 56 [.loc 1000 0] (wkL c n t h 0 0 0 hops) (fun rs M => rs = [.p (.d (.v (.bool (stepE x == 0))))] ∧ M = wkL c (stepN c n x) (stepT t x) (setH h x.st) (stepE x) (stepA n x).1 (stepA n x).2 (hops ++ [⟨n, t, a, h⟩])) := by
  have r1 := rowTT_at c.tb n
  have hs := hc.tb
  have hsm := hc.at n
  have ko := One_c (c.tb.getD n []) (t : Int) h hsm
  have e1 : oneR (c.tb.getD n []) (t : Int) h = some a := by unfold oneR; rw [if_neg (by omega)]; exact hf
  have e2 : oneH (c.tb.getD n []) (t : Int) h = setH h x.st := by unfold oneH; rw [e1]; simp only [Int.toNat_natCast]; rw [hx]
  rw [e1, e2] at ko
  have hal := findR_lt hf
  generalize c.tb.getD n [] = ts at *
  have r2 := rowRR_at ts t
  have hb := smallR_at hsm t
  generalize ts.getD t [] = l at *
  have r3 := rowR_at l a
  rw [hx] at r3
  simp only [Option.getD_some, Option.isSome_some] at ko
  have fin := @wk_fin
  generalize setH h x.st = h' at *
  by_cases k4 : x.kd = 4
  · have q : (x.kd == 4) = true := ieq_tt k4
    have s1 : stepN c n x = n := if_neg (by omega)
    have s2 : stepT t x = x.tb := by unfold stepT; rw [if_neg (by omega), if_pos k4]
    have s3 : stepE x = 0 := if_pos k4
    have s4 : stepA n x = (0, 0) := if_neg (by omega)
    rw [s1, s2, s3, s4]
    unfold wkL wkC at *
    refine mcalls_of_awp Try.func56 rfl (by decide +kernel) (by rw [Try.ntmps56]; simp) (fun l X h => by simp only [AL.look] at h; (repeat' split at h); all_goals first | omega | cases h) ?_; rw [Try.ntmps56]; simp only [frA]
    (repeat (first | refine j0 ?_ | refine q7 rfl ?_ | refine z7 rfl ?_ | refine x6 ?_ | (refine x4 fun K hK => ?_) | (refine j4 (by kernel_rfl) (by kernel_rfl) fun K hK => ?_) | ((first | refine q6 ?_ | refine z6 ?_ | ((first | refine z2 (hK _ ?_) | refine j5 (hK _ _ (x5 (by kernel_rfl)) ?_)); clear hK K)); (first | show AWP _ _ _ _ _ | ((try simp only [q8]); first | show loopQ _ _ _ _ _ _ | show cutQ _ _ _ _ | show AWP _ _ _ _ _))) | ((first | refine z10 rfl rfl rfl ?_ | refine x10 rfl rfl rfl ?_); simp (maxSteps := 2000000) (disch := omega) only [go_sem, seval, hd, cb, ruleD, portD, r1, r2, r3, q]; (first | refine ⟨_, ko, ?_⟩)) | ((first | refine x7 [6, 8, 9, 10] rfl ?_ | refine j7 [6, 8, 9, 10] rfl ?_); simp (maxSteps := 2000000) (disch := omega) only [go_sem, seval, hd, cb, ruleD, portD, r1, r2, r3, q]; (repeat (first | refine ⟨by omega, ?_⟩ | refine ⟨True.intro, ?_⟩)))))
    exact fin (x := ⟨n, t, a, h⟩) rfl rfl rfl fun _ h => h
  · have q4 : (x.kd == 4) = false := ieq_ff k4
    by_cases k3 : x.kd = 3
    · have q : (x.kd == 3) = true := ieq_tt k3
      obtain ⟨p1, p2, p3⟩ := hp k3
      have s1 : stepN c n x = (portAt c.tp n x.pt.toNat).pe := if_pos k3
      have s2 : stepT t x = 0 := if_pos k3
      have s3 : stepE x = 0 := by unfold stepE; rw [if_neg k4, if_pos k3]
      have s4 : stepA n x = (0, 0) := if_neg (by omega)
      have kt := Other_c c.tp n x.pt.toNat hc.tp hts hnp p2 p3
      rw [Int.toNat_of_nonneg p1] at kt
      rw [s1, s2, s3, s4]
      unfold topoD at kt
      unfold wkL wkC at *
      refine mcalls_of_awp Try.func56 rfl (by decide +kernel) (by rw [Try.ntmps56]; simp) (fun l X h => by simp only [AL.look] at h; (repeat' split at h); all_goals first | omega | cases h) ?_; rw [Try.ntmps56]; simp only [frA]
      (repeat (first | refine j0 ?_ | refine q7 rfl ?_ | refine z7 rfl ?_ | refine x6 ?_ | (refine x4 fun K hK => ?_) | (refine j4 (by kernel_rfl) (by kernel_rfl) fun K hK => ?_) | ((first | refine q6 ?_ | refine z6 ?_ | ((first | refine z2 (hK _ ?_) | refine j5 (hK _ _ (x5 (by kernel_rfl)) ?_)); clear hK K)); (first | show AWP _ _ _ _ _ | ((try simp only [q8]); first | show loopQ _ _ _ _ _ _ | show cutQ _ _ _ _ | show AWP _ _ _ _ _))) | ((first | refine z10 rfl rfl rfl ?_ | refine x10 rfl rfl rfl ?_); simp (maxSteps := 2000000) (disch := omega) only [go_sem, seval, hd, cb, ruleD, portD, r1, r2, r3, q4, q]; (first | refine ⟨_, ko, ?_⟩ | refine ⟨_, kt, ?_⟩)) | ((first | refine x7 [6, 8, 9, 10] rfl ?_ | refine j7 [6, 8, 9, 10] rfl ?_); simp (maxSteps := 2000000) (disch := omega) only [go_sem, seval, hd, cb, ruleD, portD, r1, r2, r3, q4, q]; (repeat (first | refine ⟨by omega, ?_⟩ | refine ⟨True.intro, ?_⟩)))))
      exact fin (x := ⟨n, t, a, h⟩) rfl rfl rfl fun _ h => h
    · have q3 : (x.kd == 3) = false := ieq_ff k3
      have s1 : stepN c n x = n := if_neg k3
      have s2 : stepT t x = t := by unfold stepT; rw [if_neg k3, if_neg k4]
      by_cases k2 : x.kd = 2
      · have q : (x.kd == 2) = true := ieq_tt k2
        have s3 : stepE x = 2 := by unfold stepE; rw [if_neg k4, if_neg k3, if_pos k2]
        have s4 : stepA n x = ((n : Int), x.pt) := if_pos k2
        rw [s1, s2, s3, s4]
        unfold wkL wkC at *
        refine mcalls_of_awp Try.func56 rfl (by decide +kernel) (by rw [Try.ntmps56]; simp) (fun l X h => by simp only [AL.look] at h; (repeat' split at h); all_goals first | omega | cases h) ?_; rw [Try.ntmps56]; simp only [frA]
        (repeat (first | refine j0 ?_ | refine q7 rfl ?_ | refine z7 rfl ?_ | refine x6 ?_ | (refine x4 fun K hK => ?_) | (refine j4 (by kernel_rfl) (by kernel_rfl) fun K hK => ?_) | ((first | refine q6 ?_ | refine z6 ?_ | ((first | refine z2 (hK _ ?_) | refine j5 (hK _ _ (x5 (by kernel_rfl)) ?_)); clear hK K)); (first | show AWP _ _ _ _ _ | ((try simp only [q8]); first | show loopQ _ _ _ _ _ _ | show cutQ _ _ _ _ | show AWP _ _ _ _ _))) | ((first | refine z10 rfl rfl rfl ?_ | refine x10 rfl rfl rfl ?_); simp (maxSteps := 2000000) (disch := omega) only [go_sem, seval, hd, cb, ruleD, portD, r1, r2, r3, q4, q3, q]; (first | refine ⟨_, ko, ?_⟩)) | ((first | refine x7 [6, 8, 9, 10] rfl ?_ | refine j7 [6, 8, 9, 10] rfl ?_); simp (maxSteps := 2000000) (disch := omega) only [go_sem, seval, hd, cb, ruleD, portD, r1, r2, r3, q4, q3, q]; (repeat (first | refine ⟨by omega, ?_⟩ | refine ⟨True.intro, ?_⟩)))))
        exact fin (x := ⟨n, t, a, h⟩) rfl rfl rfl fun _ h => h
      · have q : (x.kd == 2) = false := ieq_ff k2
        have s3 : stepE x = 1 := by unfold stepE; rw [if_neg k4, if_neg k3, if_neg k2]
        have s4 : stepA n x = (0, 0) := if_neg k2
        rw [s1, s2, s3, s4]
        unfold wkL wkC at *
        refine mcalls_of_awp Try.func56 rfl (by decide +kernel) (by rw [Try.ntmps56]; simp) (fun l X h => by simp only [AL.look] at h; (repeat' split at h); all_goals first | omega | cases h) ?_; rw [Try.ntmps56]; simp only [frA]
        (repeat (first | refine j0 ?_ | refine q7 rfl ?_ | refine z7 rfl ?_ | refine x6 ?_ | (refine x4 fun K hK => ?_) | (refine j4 (by kernel_rfl) (by kernel_rfl) fun K hK => ?_) | ((first | refine q6 ?_ | refine z6 ?_ | ((first | refine z2 (hK _ ?_) | refine j5 (hK _ _ (x5 (by kernel_rfl)) ?_)); clear hK K)); (first | show AWP _ _ _ _ _ | ((try simp only [q8]); first | show loopQ _ _ _ _ _ _ | show cutQ _ _ _ _ | show AWP _ _ _ _ _))) | ((first | refine z10 rfl rfl rfl ?_ | refine x10 rfl rfl rfl ?_); simp (maxSteps := 2000000) (disch := omega) only [go_sem, seval, hd, cb, ruleD, portD, r1, r2, r3, q4, q3, q]; (first | refine ⟨_, ko, ?_⟩)) | ((first | refine x7 [6, 8, 9, 10] rfl ?_ | refine j7 [6, 8, 9, 10] rfl ?_); simp (maxSteps := 2000000) (disch := omega) only [go_sem, seval, hd, cb, ruleD, portD, r1, r2, r3, q4, q3, q]; (repeat (first | refine ⟨by omega, ?_⟩ | refine ⟨True.intro, ?_⟩)))))
        exact fin (x := ⟨n, t, a, h⟩) rfl rfl rfl fun _ h => h
end Go.Proofs.Ytbiildleaelodaa
set_option linter.unusedSimpArgs false
set_option linter.unusedVariables false
namespace Go.Proofs.Ytbiildleaelodaa
open Go.Proofs.Ytbiildleaelodaa.AL
structure RunR where
  en : Int
  an : Int
  ap : Int
  hops : List Hop
def tabW (c : Config) (n t : Nat) : List Rule := (c.tb.getD n []).getD t []
def goW (c : Config) : Nat → Nat → Nat → BitVec 128 → List Hop → RunR
  | 0, _, _, _, hops => ⟨4, 0, 0, hops⟩
  | f + 1, n, t, h, hops => match findR (tabW c n t) h with
    | none => ⟨3, 0, 0, hops ++ [⟨n, t, -1, h⟩]⟩
    | some a => if stepE ((tabW c n t).getD a r0) = 0
      then goW c f (stepN c n ((tabW c n t).getD a r0)).toNat (stepT t ((tabW c n t).getD a r0)).toNat (setH h ((tabW c n t).getD a r0).st) (hops ++ [⟨n, t, a, h⟩])
      else ⟨stepE ((tabW c n t).getD a r0), (stepA n ((tabW c n t).getD a r0)).1, (stepA n ((tabW c n t).getD a r0)).2, hops ++ [⟨n, t, a, h⟩]⟩
structure InW (c : Config) (n t : Nat) : Prop where
  n1 : n < c.tb.length
  n2 : n < c.tp.length
  t1 : t < (c.tb.getD n []).length
theorem allF_at {f : Nat → Bool} {n i : Nat} (h : allF f n 0 = true) (hi : i < n) : f i = true := (allF_iff.1 h) i (Nat.zero_le _) hi
theorem sound_parts {c : Config} (h : soundC c = 0) : soundT c.tp = 0 ∧ c.tb.length = c.tp.length ∧ ∀ n, n < c.tb.length → soundTab (c.tb.getD n []) (c.tp.getD n []) = 0 := by
  unfold soundC at h
  split at h
  · rename_i h1; exact absurd h h1
  · rename_i h1
    split at h
    · rename_i h2; exact absurd h h2
    · split at h
      · cases h
      · rename_i h3
        refine ⟨by omega, by omega, fun n hn => ?_⟩
        have go : ∀ (f : Nat → Int) (m i : Nat), errF f m i = 0 → ∀ n, i ≤ n → n < i + m → f n = 0 := by
          intro f m
          induction m with
          | zero => intro i _ n h1 h2; omega
          | succ m ih =>
            intro i he n h1 h2
            unfold errF at he
            split at he
            · rename_i h0
              by_cases e : n = i
              · subst e; first | exact h0 | omega
              · exact ih (i + 1) he n (by omega) (by omega)
            · rename_i h0
              first | exact absurd he h0 | omega
        exact go (tabE c) c.tb.length 0 h n (Nat.zero_le _) (by omega)
theorem soundTab_parts {ts : List (List Rule)} {ps : List Port} (h : soundTab ts ps = 0) : 0 < ts.length ∧ ts.length ≤ 3 ∧ ∀ i k, i < ts.length → k < (ts.getD i []).length → soundR ((ts.getD i []).getD k r0) i ps = true ∧ ((ts.getD i []).getD k r0).tb < ts.length := by
  unfold soundTab at h
  split at h
  · cases h
  · rename_i h1
    split at h
    · cases h
    · split at h
      · rename_i h2
        refine ⟨by omega, by omega, fun i k hi hk => ?_⟩
        have := allF_at h2 hi
        unfold tabOk at this
        have := allF_at this hk
        unfold ruleOk at this
        rw [Bool.and_eq_true, decide_eq_true_iff] at this
        exact this
      · cases h
theorem portT_parts {t : List (List Port)} {n k : Nat} (h : portT t n k = true) (hk : (portAt t n k).kd = 2) : 0 ≤ (portAt t n k).pe ∧ (portAt t n k).pe < t.length := by
  unfold portT at h
  unfold portAt at *
  generalize (t.getD n []).getD k p0 = p at *
  simp only [hk] at h
  simp at h
  omega
theorem does_parts {x : Rule} {t : Nat} {ps : List Port} (h : soundR x t ps = true) : (x.kd = 1 ∨ x.kd = 2 ∨ x.kd = 3 ∨ x.kd = 4) ∧ (x.kd = 3 → 0 ≤ x.pt ∧ x.pt.toNat < ps.length ∧ (ps.getD x.pt.toNat p0).kd = 2) ∧ (x.kd = 4 → (t : Int) < x.tb) := by
  unfold soundR at h
  rw [Bool.and_eq_true] at h
  have h := h.2
  unfold doesR portR at h
  split at h
  · exact ⟨by omega, by omega, by omega⟩
  · split at h
    · exact ⟨by omega, by omega, by omega⟩
    · split at h
      · rename_i h3
        simp only [Bool.and_eq_true, decide_eq_true_iff] at h
        refine ⟨by omega, fun _ => ⟨by omega, by omega, eq_of_beq h.2⟩, by omega⟩
      · split at h
        · rename_i h4
          simp only [Bool.and_eq_true, decide_eq_true_iff] at h
          exact ⟨by omega, by omega, fun _ => h.1.2⟩
        · cases h
theorem step_ends {x : Rule} (h : stepE x = 0) : x.kd = 3 ∨ x.kd = 4 := by
  unfold stepE at h
  repeat (split at h)
  all_goals first | omega | exact absurd h (by decide)
theorem inW_rule {c : Config} (hs : soundC c = 0) {n t a : Nat} {h : BitVec 128} (hw : InW c n t) (hf : findR (tabW c n t) h = some a) : soundR ((tabW c n t).getD a r0) t (c.tp.getD n []) = true ∧ ((tabW c n t).getD a r0).tb < (c.tb.getD n []).length := by
  have hal := findR_lt hf
  exact (soundTab_parts ((sound_parts hs).2.2 n hw.n1)).2.2 t a hw.t1 hal
theorem inW_port {c : Config} (hs : soundC c = 0) {n t a : Nat} {h : BitVec 128} (hw : InW c n t) (hf : findR (tabW c n t) h = some a) (h3 : ((tabW c n t).getD a r0).kd = 3) :
    0 ≤ ((tabW c n t).getD a r0).pt ∧ ((tabW c n t).getD a r0).pt.toNat < (c.tp.getD n []).length ∧ (portAt c.tp n ((tabW c n t).getD a r0).pt.toNat).kd = 2 :=
  (does_parts (inW_rule hs hw hf).1).2.1 h3
theorem inW_next {c : Config} (hs : soundC c = 0) {n t a : Nat} {h : BitVec 128} (hw : InW c n t) (hf : findR (tabW c n t) h = some a) (he : stepE ((tabW c n t).getD a r0) = 0) :
    0 ≤ stepN c n ((tabW c n t).getD a r0) ∧ 0 ≤ stepT t ((tabW c n t).getD a r0) ∧ InW c (stepN c n ((tabW c n t).getD a r0)).toNat (stepT t ((tabW c n t).getD a r0)).toNat := by
  obtain ⟨r1, r2⟩ := inW_rule hs hw hf
  have r3 := inW_port hs hw hf
  obtain ⟨p1, p2, p3⟩ := sound_parts hs
  obtain ⟨d1, d2, d3⟩ := does_parts r1
  generalize (tabW c n t).getD a r0 = x at *
  have hn1 := hw.n1
  have hn2 := hw.n2
  have ht1 := hw.t1
  rcases step_ends he with h3 | h4
  · have s1 : stepN c n x = (portAt c.tp n x.pt.toNat).pe := if_pos h3
    have s2 : stepT t x = 0 := if_pos h3
    obtain ⟨q1, q2, q3⟩ := r3 h3
    obtain ⟨q4, q5⟩ := portT_parts (sound_ports p1 hn2 q2) q3
    rw [s1, s2]
    generalize (portAt c.tp n x.pt.toNat).pe = m at *
    refine ⟨q4, Int.le_refl _, by omega, by omega, ?_⟩
    exact (soundTab_parts (p3 m.toNat (by omega))).1
  · have n3 : x.kd ≠ 3 := by omega
    have s1 : stepN c n x = n := if_neg n3
    have s2 : stepT t x = x.tb := by unfold stepT; rw [if_neg n3, if_pos h4]
    have := d3 h4
    rw [s1, s2]
    refine ⟨by omega, by omega, by omega, by omega, ?_⟩
    simp only [Int.toNat_natCast]
    omega
end Go.Proofs.Ytbiildleaelodaa
set_option linter.unusedSimpArgs false
set_option linter.unusedVariables false
namespace Go.Proofs.Ytbiildleaelodaa.AL
open Go
theorem Weak.growCell (A : ASt) (l0 l j sz : Nat) (e e' : TypeId) (cs : List AV) (f : Nat → List Dat) (hl0 : look A.locs l0 = some (.cells e cs)) (hj : cs[j]? = some (.p (.d (.v (.slice none 0 0))))) (hne : l0 ≠ l)
    (hu : unusedB A l = true) (hn : look A.locs l = none) : Weak A ⟨A.fr, (l, .grow e' sz 0 0) :: (l0, .cells e (cs.set j (.gr l 0 sz 0 f))) :: A.locs⟩ := by
  intro w0 g0 nt h a w r
  let h' : Gh := { h with κ := fun k => if k = l then .slice none 0 0 else h.κ k, μ := fun k => if k = l then 0 else h.μ k }
  have un := unusedB_spec hu
  have tr : Trans w0.O w h w h' (fun _ => False) (some l) true := by
    refine ⟨BelowS.refl _ _, fun b _ _ => ⟨rfl, rfl⟩, ⟨fun b => Nat.le_refl _, fun b o _ => rfl⟩, r.gz, fun b _ => rfl, fun _ _ => rfl, fun k hk => ?_, fun k _ hf => by cases hf⟩
    have : k ≠ l := fun e => hk (by rw [e])
    simp [h', this]
  have nl : h'.κ l = .slice none 0 0 := by simp [h']
  have nm : h'.μ l = 0 := by simp [h']
  have old : ∀ k L, k ≠ l → look A.locs k = some L → LocOK w0.O w h' k L ∧ inB h' k L = inB h k L := fun k L hk hL =>
    LocOK.trans tr (fun e => hk (by cases e; rfl)) (fun _ l' hl' hm => by cases hl'; exact un.2.1 k L hL hm) (fun b _ => by simp) (r.locs k L hL)
  have cell0 : LocOK w0.O w h' l0 (.cells e (cs.set j (.gr l 0 sz 0 f))) := by
    obtain ⟨arr, c1, c2, c3, c4, c5⟩ := (old l0 _ hne hl0).1
    refine ⟨arr, c1, c2, by simpa using c3, c4, fun i v x hv hx => ?_⟩
    by_cases hi : i = j
    · subst hi
      have hlt := (List.getElem?_eq_some_iff.1 hj).1
      rw [List.getElem?_set_self hlt] at hx
      cases hx
      obtain ⟨k1, k2⟩ := c5 i v _ hv hj
      have hv0 := relA_nil k1
      refine ⟨?_, k2⟩
      rw [hv0]
      exact ⟨.sl0 _ _ _ _, by omega, fun _ => nl.symm⟩
    · rw [List.getElem?_set_ne (fun e => hi e.symm)] at hx
      exact c5 i v x hv hx
  refine ⟨h', r.size, r.defers, fun u y hy => ?_, fun k L hL => ?_, fun k k' L L' b hne2 hL hL' hbk => ?_, r.ext, fun k hk => ?_⟩
  · exact RelA.trans tr (fun _ l' hl' hm => by cases hl'; exact un.1 u y hy hm) (r.fr u y hy)
  · simp only [look] at hL
    split at hL
    · rename_i e2; subst e2; cases hL
      exact ⟨nm, ⟨[], by rw [nl]; exact World.ownsRow_nil _ _ _ _⟩, fun b c hb => by rw [nl] at hb; simp at hb, fun b hb => by rw [nl] at hb; simp [Value.ownBlock] at hb⟩
    · rename_i hk
      split at hL
      · rename_i e2; subst e2; cases hL; exact cell0
      · exact (old k L (fun e => hk e.symm) hL).1
  · have two : ∀ {k : Nat} {L : LV}, look ((l, LV.grow e' sz 0 0) :: (l0, .cells e (cs.set j (.gr l 0 sz 0 f))) :: A.locs) k = some L → inB h' k L b → k ≠ l ∧ ∃ L0, look A.locs k = some L0 ∧ inB h k L0 b := by
      intro k L hL hb
      simp only [look] at hL
      split at hL
      · rename_i e2; subst e2; cases hL
        simp [inB, nl, Value.ownBlock] at hb
      · rename_i hk
        refine ⟨fun e => hk e.symm, ?_⟩
        split at hL
        · rename_i e2; subst e2; cases hL
          exact ⟨_, hl0, hb⟩
        · exact ⟨L, hL, by rw [← (old k L (fun e => hk e.symm) hL).2]; exact hb⟩
    intro hin
    obtain ⟨a1, L1, a2, a3⟩ := two hL hbk
    obtain ⟨b1, L2, b2, b3⟩ := two hL' hin
    exact r.sep k k' L1 L2 b hne2 a2 b2 a3 b3
  · have : k ≠ l := by have := un.2.2; omega
    simp only [h', if_neg this]
    exact r.pin k hk
theorem awp_growCell {P : Program} {nt : Nat} {c : Code} {Q : Exit → ASt → Prop} {A : ASt} (l0 l j sz : Nat) (e' : TypeId) (f : Nat → List Dat) {e : TypeId} {cs : List AV} (hl0 : look A.locs l0 = some (.cells e cs)) (hj : cs[j]? = some (.p (.d (.v (.slice none 0 0))))) (hne : l0 ≠ l)
    (hu : unusedB A l = true) (hn : look A.locs l = none) (h : AWP P nt c Q ⟨A.fr, (l, .grow e' sz 0 0) :: (l0, .cells e (cs.set j (.gr l 0 sz 0 f))) :: A.locs⟩) : AWP P nt c Q A := awp_weak (Weak.growCell A l0 l j sz e e' cs f hl0 hj hne hu hn) h
end Go.Proofs.Ytbiildleaelodaa.AL
set_option linter.unusedSimpArgs false
set_option linter.unusedVariables false
namespace Go.Proofs.Ytbiildleaelodaa
open Go.Proofs.Ytbiildleaelodaa.AL
set_option maxRecDepth 100000 in
theorem step_go (c : Config) (n t a : Nat) (h : BitVec 128) (hops : List Hop) (hc : c.small) (hs : soundC c = 0) (hw : InW c n t) (hk : hops.length ≤ 100000) (hf : findR (tabW c n t) h = some a) (he : stepE ((tabW c n t).getD a r0) = 0) :
    MCalls Try.prog 56 [.loc 1000 0] (wkL c n t h 0 0 0 hops) (fun rs M => rs = [.p (.d (.v (.bool true)))] ∧
      M = wkL c ((stepN c n ((tabW c n t).getD a r0)).toNat : Nat) ((stepT t ((tabW c n t).getD a r0)).toNat : Nat) (setH h ((tabW c n t).getD a r0).st) 0 0 0 (hops ++ [⟨n, t, a, h⟩])) := by
  have hp := inW_port hs hw hf
  obtain ⟨p1, p2, -⟩ := inW_next hs hw hf he
  unfold tabW at *
  generalize hx : (((c.tb.getD n []).getD t []).getD a r0) = x at *
  have h1 := step_some c n t a h hops x hc (sound_parts hs).1 hw.n1 hw.n2 hw.t1 hk hf hx hp
  have s4 : stepA n x = (0, 0) := if_neg (by rcases step_ends he with h | h <;> omega)
  rw [s4, he] at h1
  rw [Int.toNat_of_nonneg p1, Int.toNat_of_nonneg p2]
  exact h1
set_option maxRecDepth 100000 in
theorem step_stop (c : Config) (n t a : Nat) (h : BitVec 128) (hops : List Hop) (hc : c.small) (hs : soundC c = 0) (hw : InW c n t) (hk : hops.length ≤ 100000) (hf : findR (tabW c n t) h = some a) (he : stepE ((tabW c n t).getD a r0) ≠ 0) :
    MCalls Try.prog 56 [.loc 1000 0] (wkL c n t h 0 0 0 hops) (fun rs M => rs = [.p (.d (.v (.bool false)))] ∧
      M = wkL c (stepN c n ((tabW c n t).getD a r0)) (stepT t ((tabW c n t).getD a r0)) (setH h ((tabW c n t).getD a r0).st) (stepE ((tabW c n t).getD a r0)) (stepA n ((tabW c n t).getD a r0)).1 (stepA n ((tabW c n t).getD a r0)).2 (hops ++ [⟨n, t, a, h⟩])) := by
  have hp := inW_port hs hw hf
  unfold tabW at *
  generalize hx : (((c.tb.getD n []).getD t []).getD a r0) = x at *
  have h1 := step_some c n t a h hops x hc (sound_parts hs).1 hw.n1 hw.n2 hw.t1 hk hf hx hp
  rw [ieq_ff he] at h1
  exact h1
def runD (r : RunR) : List Dat := [.v (.int .i64 r.en), .v (.int .i64 r.an), .v (.int .i64 r.ap), .sl 5 r.hops.length (rowH r.hops)]
structure WSt (c : Config) (R : RunR) where
  i : Nat
  n : Nat
  t : Nat
  h : BitVec 128
  hops : List Hop
  hi : i ≤ 10800
  hl : hops.length = i
  hw : InW c n t
  hg : goW c (10800 - i) n t h hops = R
def wkAt (c : Config) (n t : Int) (h : BitVec 128) (en an ap : Int) (hops : AV) : LV :=
  .cells 115 [.p (.d (.sl 1 c.tp.length (rowPP c.tp))), .p (.d (.v (.int .i64 c.po.tn))), .p (.d (.sl 2 c.po.peers.length (rowA c.po.peers))), .p (.d (.sl 3 c.po.ways.length (rowW c.po.ways))), .p (.d (.sl 1 c.tb.length (rowTT c.tb))),
    .p (.d (.v (.int .i64 n))), .p (.d (.v (.int .i64 t))), .p (.d (.v (.int .u64 (hi h)))), .p (.d (.v (.int .u64 (lo h)))), .p (.d (.v (.int .i64 en))), .p (.d (.v (.int .i64 an))), .p (.d (.v (.int .i64 ap))), hops]
def runZ : LV := .cells 83 [.p (.d (.v (.int .i64 0))), .p (.d (.v (.int .i64 0))), .p (.d (.v (.int .i64 0))), .p (.d (.v (.slice none 0 0)))]
def runI (c : Config) (R : RunR) (s : WSt c R) : ASt :=
  ⟨[(36, .p (.d (.v (.int .i64 (s.i : Int))))), (13, .cl (.func 56) [.loc 33 0] []), (12, .loc 33 0), (8, .loc 8 0)],
   [(33, wkAt c s.n s.t s.h 0 0 0 (.gr 5 s.hops.length 5 s.hops.length (rowH s.hops))), (5, .grow 92 5 s.hops.length s.hops.length), (8, runZ)]⟩
theorem run_out {c : Config} {n t : Int} {h : BitVec 128} {en an ap : Int} {l : List Hop} {k : Code} {Q : Exit → ASt → Prop} {A : ASt} {g : Nat} (h1 : AL.look A.fr 12 = some (.loc 33 0)) (h2 : AL.look A.fr 8 = some (.loc 8 0))
    (h3 : AL.look A.locs 33 = some (wkAt c n t h en an ap (.gr 5 g 5 l.length (rowH l)))) (h4 : AL.look A.locs 8 = some runZ)
    (hk : AWP Try.prog 54 k Q ⟨[(12, .loc 33 0), (8, .loc 8 0)], [(33, wkAt c n t h en an ap (.p (.d (.sl 5 l.length (rowH l))))), (8, runZ)]⟩) : AWP Try.prog 54 k Q A := by
  refine awp_weak (A' := ⟨[(12, .loc 33 0), (8, .loc 8 0)], [(33, wkAt c n t h en an ap (.p (.d (.sl 5 l.length (rowH l))))), (8, runZ)]⟩) (Weak.list ⟨⟨_, h1, Le.refl _⟩, ⟨_, h2, Le.refl _⟩, trivial⟩ ⟨⟨_, h3, ?_⟩, ⟨_, h4, of_eq_true (q9 _)⟩, trivial⟩) hk
  refine lle_cellsD ?_
  iterate 12 (refine LesD.cons (Le.refl _) ?_)
  exact .cons (le_gr rfl fun i hi => rfl) .nil
set_option maxRecDepth 100000 in
set_option maxHeartbeats 8000000 in
theorem Run_good (c : Config) (s : Spot) (h : BitVec 128) (v : Int) (R : RunR) (hc : c.small) (hv : -9223372036854775808 ≤ v ∧ v < 9223372036854775808) (he : stampE c s v = 0) (hs : soundC c = 0) (n : Nat) (hn : s.sw = n) (hw : InW c n 0)
    (hR : goW c 10800 n 0 (setH h (stampC c s v)) [] = R) :
    ACalls Try.prog 36 [.agg (configD c), .agg (spotD s), .agg (hd h), .d (.v (.int .i64 v))] (· = [.agg (runD R), .d (.v (.int .i64 0))]) := by
  have s1 := StampC_c c s v hc hv
  rw [he] at s1
  generalize stampC c s v = sc at *
  have s2 := Set_c h sc
  generalize setH h sc = h' at *
  obtain ⟨sw, po⟩ := s
  cases hn
  unfold configD spotD at *
  refine j10 Try.func36 rfl (by decide +kernel) (by rw [Try.ntmps36]; simp) ?_; rw [Try.ntmps36]; simp only [frOf]
  (repeat (first | refine j0 ?_ | refine q7 rfl ?_ | refine z7 rfl ?_ | refine x6 ?_ | (refine x4 fun K hK => ?_) | (refine j4 (by kernel_rfl) (by kernel_rfl) fun K hK => ?_) | ((first | refine q6 ?_ | refine z6 ?_ | ((first | refine z2 (hK _ ?_) | refine j5 (hK _ _ (x5 (by kernel_rfl)) ?_)); clear hK K)); (first | show AWP _ _ _ _ _ | ((try simp only [q8]); first | show loopQ _ _ _ _ _ _ | show cutQ _ _ _ _ | show AWP _ _ _ _ _))) | ((first | refine z10 rfl rfl rfl ?_ | refine x10 rfl rfl rfl ?_); simp (maxSteps := 2000000) (disch := omega) only [go_sem, seval, hd, cb, ruleD, portD]; (first | refine ⟨_, s1, ?_⟩ | refine ⟨_, s2, ?_⟩)) | ((first | refine x7 [8, 10, 33] rfl ?_ | refine j7 [8, 10, 33] rfl ?_); simp (maxSteps := 2000000) (disch := omega) only [go_sem, seval, hd, cb, ruleD, portD]; (repeat (first | refine ⟨by omega, ?_⟩ | refine ⟨True.intro, ?_⟩)))))
  refine awp_growCell 33 5 12 5 92 (rowH []) rfl rfl (by omega) (by kernel_rfl) rfl ?_
  refine awp_loop (runI c R) (fun s => 10800 - s.i) ⟨0, n, 0, h', [], by omega, rfl, hw, by rw [Nat.sub_zero]; exact hR⟩ ?_ (fun s => ?_)
  · unfold runI wkAt runZ
    refine Weak.list ?_ ?_; (all_goals simp (disch := omega) only [AllF, AllL, x9, j9, q9, exists_eq_left', Option.some.injEq, go_sem, seval, hd, cb, ruleD, portD]); (all_goals (repeat' (with_reducible apply And.intro))); (all_goals try (first | exact j6 rfl | (refine q10 ?_; omega) | (refine j6 ?_; simp; done)))
    exact of_eq_true (q9 _)
  obtain ⟨i, n, t, h, hops, hi, hl, hw, hg⟩ := s
  have hk : hops.length ≤ 100000 := by omega
  unfold runI wkAt runZ
  by_cases hi2 : i < 10800
  · obtain ⟨f, hf⟩ : ∃ f, 10800 - i = f + 1 := ⟨10800 - i - 1, by omega⟩
    rw [hf] at hg
    cases hfi : findR (tabW c n t) h with
    | none =>
      have k1 := step_none c n t h hops hc hw.n1 hw.t1 hk hfi
      unfold wkL wkC at k1
      obtain ⟨y, hy⟩ : ∃ y, y = hops ++ [⟨n, t, -1, h⟩] := ⟨_, rfl⟩
      rw [← hy] at k1
      have hR2 : R = ⟨3, 0, 0, y⟩ := by rw [← hg, hy]; unfold goW; rw [hfi]
      clear hg hR
      subst hR2
      unfold runD
      (repeat (first | refine j0 ?_ | refine q7 rfl ?_ | refine z7 rfl ?_ | refine x6 ?_ | (refine x4 fun K hK => ?_) | (refine j4 (by kernel_rfl) (by kernel_rfl) fun K hK => ?_) | ((first | refine q6 ?_ | refine z6 ?_ | ((first | refine z2 (hK _ ?_) | refine j5 (hK _ _ (x5 (by kernel_rfl)) ?_)); clear hK K)); (first | show AWP _ _ _ _ _ | ((try simp only [q8]); first | show loopQ _ _ _ _ _ _ | show cutQ _ _ _ _ | show AWP _ _ _ _ _))) | ((first | refine x7 [8, 10, 33] rfl ?_ | refine j7 [8, 10, 33] rfl ?_); simp (maxSteps := 2000000) (disch := omega) only [go_sem, seval, hd, cb, ruleD, portD]; (repeat (first | refine ⟨by omega, ?_⟩ | refine ⟨True.intro, ?_⟩)))))
      (refine walkS_cons _ (step_mcall [(1000, 33), (1001, 5)] rfl rfl rfl rfl rfl rfl (k1) rfl (z11 (by repeat (first | exact trivial | refine ⟨rfl, ?_⟩)) (by kernel_rfl))) ?_); simp (maxSteps := 2000000) (disch := omega) only [go_sem, seval, hd, cb, ruleD, portD]
      (repeat ((fail_if_success (show AWP _ _ (.region 9 _ _) _ _)); first | refine j0 ?_ | refine q7 rfl ?_ | refine z7 rfl ?_ | refine x6 ?_ | (refine x4 fun K hK => ?_) | (refine j4 (by kernel_rfl) (by kernel_rfl) fun K hK => ?_) | ((first | refine q6 ?_ | refine z6 ?_ | ((first | refine z2 (hK _ ?_) | refine j5 (hK _ _ (x5 (by kernel_rfl)) ?_)); clear hK K)); (first | show AWP _ _ _ _ _ | ((try simp only [q8]); first | show loopQ _ _ _ _ _ _ | show cutQ _ _ _ _ | show AWP _ _ _ _ _))) | ((first | refine x7 [8, 10, 33] rfl ?_ | refine j7 [8, 10, 33] rfl ?_); simp (maxSteps := 2000000) (disch := omega) only [go_sem, seval, hd, cb, ruleD, portD]; (repeat (first | refine ⟨by omega, ?_⟩ | refine ⟨True.intro, ?_⟩)))))
      refine run_out (l := y) rfl rfl rfl rfl ?_
      unfold wkAt runZ
      (repeat (first | refine j0 ?_ | refine q7 rfl ?_ | refine z7 rfl ?_ | refine x6 ?_ | (refine x4 fun K hK => ?_) | (refine j4 (by kernel_rfl) (by kernel_rfl) fun K hK => ?_) | ((first | refine q6 ?_ | refine z6 ?_ | ((first | refine z2 (hK _ ?_) | refine j5 (hK _ _ (x5 (by kernel_rfl)) ?_)); clear hK K)); (first | show AWP _ _ _ _ _ | ((try simp only [q8]); first | show loopQ _ _ _ _ _ _ | show cutQ _ _ _ _ | show AWP _ _ _ _ _))) | ((first | refine x7 [8, 10, 33] rfl ?_ | refine j7 [8, 10, 33] rfl ?_); simp (maxSteps := 2000000) (disch := omega) only [go_sem, seval, hd, cb, ruleD, portD]; (repeat (first | refine ⟨by omega, ?_⟩ | refine ⟨True.intro, ?_⟩)))))
      refine z8 ⟨_, ?_, rfl⟩; rw [Try.results36]; simp (disch := omega) only [ResVars, ResVar, ptrLoc, go_sem, seval, hd, cb, ruleD, portD]
    | some a =>
      by_cases he : stepE ((tabW c n t).getD a r0) = 0
      · have k1 := step_go c n t a h hops hc hs hw hk hfi he
        obtain ⟨-, -, w2⟩ := inW_next hs hw hfi he
        have hg2 : goW c f (stepN c n ((tabW c n t).getD a r0)).toNat (stepT t ((tabW c n t).getD a r0)).toNat (setH h ((tabW c n t).getD a r0).st) (hops ++ [⟨n, t, a, h⟩]) = R := by
          rw [← hg]; conv => rhs; unfold goW
          rw [hfi]; simp only []; rw [if_pos he]
        generalize (stepN c n ((tabW c n t).getD a r0)).toNat = n' at *
        generalize (stepT t ((tabW c n t).getD a r0)).toNat = t' at *
        generalize setH h ((tabW c n t).getD a r0).st = h2 at *
        obtain ⟨y, hy⟩ : ∃ y, y = hops ++ [⟨n, t, a, h⟩] := ⟨_, rfl⟩
        rw [← hy] at k1 hg2
        have hyl : y.length = i + 1 := by rw [hy]; simp [hl]
        unfold wkL wkC at k1
        (repeat (first | refine j0 ?_ | refine q7 rfl ?_ | refine z7 rfl ?_ | refine x6 ?_ | (refine x4 fun K hK => ?_) | (refine j4 (by kernel_rfl) (by kernel_rfl) fun K hK => ?_) | ((first | refine q6 ?_ | refine z6 ?_ | ((first | refine z2 (hK _ ?_) | refine j5 (hK _ _ (x5 (by kernel_rfl)) ?_)); clear hK K)); (first | show AWP _ _ _ _ _ | ((try simp only [q8]); first | show loopQ _ _ _ _ _ _ | show cutQ _ _ _ _ | show AWP _ _ _ _ _))) | ((first | refine x7 [8, 10, 33] rfl ?_ | refine j7 [8, 10, 33] rfl ?_); simp (maxSteps := 2000000) (disch := omega) only [go_sem, seval, hd, cb, ruleD, portD]; (repeat (first | refine ⟨by omega, ?_⟩ | refine ⟨True.intro, ?_⟩)))))
        (refine walkS_cons _ (step_mcall [(1000, 33), (1001, 5)] rfl rfl rfl rfl rfl rfl (k1) rfl (z11 (by repeat (first | exact trivial | refine ⟨rfl, ?_⟩)) (by kernel_rfl))) ?_); simp (maxSteps := 2000000) (disch := omega) only [go_sem, seval, hd, cb, ruleD, portD]
        (repeat (first | refine j0 ?_ | refine q7 rfl ?_ | refine z7 rfl ?_ | refine x6 ?_ | (refine x4 fun K hK => ?_) | (refine j4 (by kernel_rfl) (by kernel_rfl) fun K hK => ?_) | ((first | refine q6 ?_ | refine z6 ?_ | ((first | refine z2 (hK _ ?_) | refine j5 (hK _ _ (x5 (by kernel_rfl)) ?_)); clear hK K)); (first | show AWP _ _ _ _ _ | ((try simp only [q8]); first | show loopQ _ _ _ _ _ _ | show cutQ _ _ _ _ | show AWP _ _ _ _ _))) | ((first | refine x7 [8, 10, 33] rfl ?_ | refine j7 [8, 10, 33] rfl ?_); simp (maxSteps := 2000000) (disch := omega) only [go_sem, seval, hd, cb, ruleD, portD]; (repeat (first | refine ⟨by omega, ?_⟩ | refine ⟨True.intro, ?_⟩)))))
        refine ⟨⟨i + 1, n', t', h2, y, by omega, hyl, w2, by rw [show 10800 - (i + 1) = f by omega]; exact hg2⟩, by simp only []; omega, ?_⟩
        refine Weak.list ?_ ?_; (all_goals simp (disch := omega) only [AllF, AllL, x9, j9, q9, exists_eq_left', Option.some.injEq, go_sem, seval, hd, cb, ruleD, portD]); (all_goals (repeat' (with_reducible apply And.intro))); (all_goals try (first | exact j6 rfl | (refine q10 ?_; omega) | (refine j6 ?_; simp; done)))
      · have k1 := step_stop c n t a h hops hc hs hw hk hfi he
        have hR2 : R = ⟨stepE ((tabW c n t).getD a r0), (stepA n ((tabW c n t).getD a r0)).1, (stepA n ((tabW c n t).getD a r0)).2, hops ++ [⟨n, t, a, h⟩]⟩ := by
          rw [← hg]; conv => lhs; unfold goW
          rw [hfi]; simp only []; rw [if_neg he]
        generalize (stepN c n ((tabW c n t).getD a r0)) = n' at *
        generalize (stepT t ((tabW c n t).getD a r0)) = t' at *
        generalize setH h ((tabW c n t).getD a r0).st = h2 at *
        generalize stepE ((tabW c n t).getD a r0) = en at *
        generalize stepA n ((tabW c n t).getD a r0) = sa at *
        obtain ⟨an, ap⟩ := sa
        obtain ⟨y, hy⟩ : ∃ y, y = hops ++ [⟨n, t, a, h⟩] := ⟨_, rfl⟩
        rw [← hy] at k1 hR2
        clear hg hR
        subst hR2
        unfold wkL wkC at k1
        unfold runD
        (repeat (first | refine j0 ?_ | refine q7 rfl ?_ | refine z7 rfl ?_ | refine x6 ?_ | (refine x4 fun K hK => ?_) | (refine j4 (by kernel_rfl) (by kernel_rfl) fun K hK => ?_) | ((first | refine q6 ?_ | refine z6 ?_ | ((first | refine z2 (hK _ ?_) | refine j5 (hK _ _ (x5 (by kernel_rfl)) ?_)); clear hK K)); (first | show AWP _ _ _ _ _ | ((try simp only [q8]); first | show loopQ _ _ _ _ _ _ | show cutQ _ _ _ _ | show AWP _ _ _ _ _))) | ((first | refine x7 [8, 10, 33] rfl ?_ | refine j7 [8, 10, 33] rfl ?_); simp (maxSteps := 2000000) (disch := omega) only [go_sem, seval, hd, cb, ruleD, portD]; (repeat (first | refine ⟨by omega, ?_⟩ | refine ⟨True.intro, ?_⟩)))))
        (refine walkS_cons _ (step_mcall [(1000, 33), (1001, 5)] rfl rfl rfl rfl rfl rfl (k1) rfl (z11 (by repeat (first | exact trivial | refine ⟨rfl, ?_⟩)) (by kernel_rfl))) ?_); simp (maxSteps := 2000000) (disch := omega) only [go_sem, seval, hd, cb, ruleD, portD]
        (repeat ((fail_if_success (show AWP _ _ (.region 9 _ _) _ _)); first | refine j0 ?_ | refine q7 rfl ?_ | refine z7 rfl ?_ | refine x6 ?_ | (refine x4 fun K hK => ?_) | (refine j4 (by kernel_rfl) (by kernel_rfl) fun K hK => ?_) | ((first | refine q6 ?_ | refine z6 ?_ | ((first | refine z2 (hK _ ?_) | refine j5 (hK _ _ (x5 (by kernel_rfl)) ?_)); clear hK K)); (first | show AWP _ _ _ _ _ | ((try simp only [q8]); first | show loopQ _ _ _ _ _ _ | show cutQ _ _ _ _ | show AWP _ _ _ _ _))) | ((first | refine x7 [8, 10, 33] rfl ?_ | refine j7 [8, 10, 33] rfl ?_); simp (maxSteps := 2000000) (disch := omega) only [go_sem, seval, hd, cb, ruleD, portD]; (repeat (first | refine ⟨by omega, ?_⟩ | refine ⟨True.intro, ?_⟩)))))
        refine run_out (l := y) rfl rfl rfl rfl ?_
        unfold wkAt runZ
        (repeat (first | refine j0 ?_ | refine q7 rfl ?_ | refine z7 rfl ?_ | refine x6 ?_ | (refine x4 fun K hK => ?_) | (refine j4 (by kernel_rfl) (by kernel_rfl) fun K hK => ?_) | ((first | refine q6 ?_ | refine z6 ?_ | ((first | refine z2 (hK _ ?_) | refine j5 (hK _ _ (x5 (by kernel_rfl)) ?_)); clear hK K)); (first | show AWP _ _ _ _ _ | ((try simp only [q8]); first | show loopQ _ _ _ _ _ _ | show cutQ _ _ _ _ | show AWP _ _ _ _ _))) | ((first | refine x7 [8, 10, 33] rfl ?_ | refine j7 [8, 10, 33] rfl ?_); simp (maxSteps := 2000000) (disch := omega) only [go_sem, seval, hd, cb, ruleD, portD]; (repeat (first | refine ⟨by omega, ?_⟩ | refine ⟨True.intro, ?_⟩)))))
        refine z8 ⟨_, ?_, rfl⟩; rw [Try.results36]; simp (disch := omega) only [ResVars, ResVar, ptrLoc, go_sem, seval, hd, cb, ruleD, portD]
  · have : i = 10800 := by omega
    have hR2 : R = ⟨4, 0, 0, hops⟩ := by rw [← hg, this, Nat.sub_self]; unfold goW; rfl
    subst hR2
    unfold runD
    subst this
    (repeat ((fail_if_success (show AWP _ _ (.region 11 _ _) _ _)); first | refine j0 ?_ | refine q7 rfl ?_ | refine z7 rfl ?_ | refine x6 ?_ | (refine x4 fun K hK => ?_) | (refine j4 (by kernel_rfl) (by kernel_rfl) fun K hK => ?_) | ((first | refine q6 ?_ | refine z6 ?_ | ((first | refine z2 (hK _ ?_) | refine j5 (hK _ _ (x5 (by kernel_rfl)) ?_)); clear hK K)); (first | show AWP _ _ _ _ _ | ((try simp only [q8]); first | show loopQ _ _ _ _ _ _ | show cutQ _ _ _ _ | show AWP _ _ _ _ _))) | ((first | refine x7 [8, 10, 33] rfl ?_ | refine j7 [8, 10, 33] rfl ?_); simp (maxSteps := 2000000) (disch := omega) only [go_sem, seval, hd, cb, ruleD, portD]; (repeat (first | refine ⟨by omega, ?_⟩ | refine ⟨True.intro, ?_⟩)))))
    refine run_out (l := hops) rfl rfl rfl rfl ?_
    unfold wkAt runZ
    (repeat (first | refine j0 ?_ | refine q7 rfl ?_ | refine z7 rfl ?_ | refine x6 ?_ | (refine x4 fun K hK => ?_) | (refine j4 (by kernel_rfl) (by kernel_rfl) fun K hK => ?_) | ((first | refine q6 ?_ | refine z6 ?_ | ((first | refine z2 (hK _ ?_) | refine j5 (hK _ _ (x5 (by kernel_rfl)) ?_)); clear hK K)); (first | show AWP _ _ _ _ _ | ((try simp only [q8]); first | show loopQ _ _ _ _ _ _ | show cutQ _ _ _ _ | show AWP _ _ _ _ _))) | ((first | refine x7 [8, 10, 33] rfl ?_ | refine j7 [8, 10, 33] rfl ?_); simp (maxSteps := 2000000) (disch := omega) only [go_sem, seval, hd, cb, ruleD, portD]; (repeat (first | refine ⟨by omega, ?_⟩ | refine ⟨True.intro, ?_⟩)))))
    refine z8 ⟨_, ?_, rfl⟩; rw [Try.results36]; simp (disch := omega) only [ResVars, ResVar, ptrLoc, go_sem, seval, hd, cb, ruleD, portD]
end Go.Proofs.Ytbiildleaelodaa
set_option linter.unusedSimpArgs false
set_option linter.unusedVariables false
namespace Go.Proofs.Ytbiildleaelodaa
open Go.Proofs.Ytbiildleaelodaa.AL
end Go.Proofs.Ytbiildleaelodaa
set_option linter.unusedSimpArgs false
set_option linter.unusedVariables false
namespace Go.Proofs.Ytbiildleaelodaa
open Go.Proofs.Ytbiildleaelodaa.AL
end Go.Proofs.Ytbiildleaelodaa
set_option linter.unusedSimpArgs false
set_option linter.unusedVariables false
namespace Go.Proofs.Ytbiildleaelodaa
open Go.Proofs.Ytbiildleaelodaa.AL
def ixHI (l : List Hop) (g : FuncId) (caps : List PV) (p : Hop → Bool) (R : Int) (s : {i : Nat // i ≤ l.length ∧ idxF p (l.drop i) i = R}) : ASt :=
  ⟨[(8, .p (.d (.v (.int .i64 (s.val : Int))))), (7, .p (.d (.v (.int .i64 (l.length : Int))))), (1, .p (.fn (.func g) [] caps)), (0, .p (.d (.sl 5 l.length (rowH l))))], []⟩
theorem IndexH_c (g : FuncId) (caps : List PV) (p : Hop → Bool) (l : List Hop) (hl : l.length ≤ 140737488355328) (hp : ∀ k ∈ l, ACalls Try.prog g (.agg (hopD k) :: caps) (· = [.d (.v (.bool (p k)))])) :
    ACalls Try.prog 83 [.d (.sl 5 l.length (rowH l)), .fn (.func g) [] caps] (· = [.d (.v (.int .i64 (idxF p l 0)))]) := by
  obtain ⟨R, hR⟩ : ∃ R, idxF p l 0 = R := ⟨_, rfl⟩
  rw [hR]
  refine j10 Try.func83 rfl (by decide +kernel) (by rw [Try.ntmps83]; simp) ?_; rw [Try.ntmps83]; simp only [frOf]
  (repeat (first | refine j0 ?_ | refine q7 rfl ?_ | refine z7 rfl ?_ | refine x6 ?_ | (refine x4 fun K hK => ?_) | (refine j4 (by kernel_rfl) (by kernel_rfl) fun K hK => ?_) | ((first | refine q6 ?_ | refine z6 ?_ | ((first | refine z2 (hK _ ?_) | refine j5 (hK _ _ (x5 (by kernel_rfl)) ?_)); clear hK K)); (first | show AWP _ _ _ _ _ | ((try simp only [q8]); first | show loopQ _ _ _ _ _ _ | show cutQ _ _ _ _ | show AWP _ _ _ _ _))) | ((first | refine x7 [] rfl ?_ | refine j7 [] rfl ?_); simp (maxSteps := 2000000) (disch := omega) only [go_sem, seval, hd, hopD]; (repeat (first | refine ⟨by omega, ?_⟩ | refine ⟨True.intro, ?_⟩)))))
  refine awp_loop (ixHI l g caps p R) (fun s => l.length - s.val) ⟨0, by omega, by rw [List.drop_zero]; exact hR⟩ ?_ (fun s => ?_)
  · unfold ixHI
    refine Weak.list ?_ ?_; (all_goals simp (disch := omega) only [AllF, AllL, x9, j9, q9, exists_eq_left', Option.some.injEq, go_sem, seval, hd, hopD]); (all_goals (repeat' (with_reducible apply And.intro))); (all_goals try (first | exact j6 rfl | (refine q10 ?_; omega) | (refine j6 ?_; simp; done)))
  obtain ⟨i, hi, he⟩ := s
  unfold ixHI
  by_cases hn : i < l.length
  · rw [drop_getD l i hop0 hn] at he
    have r1 := rowH_at l i
    have hk := hp _ (getD_in hn hop0)
    generalize l.getD i hop0 = K at he r1 hk
    unfold idxF at he
    cases hb : p K
    all_goals
      rw [hb] at he hk
      simp only [Bool.false_eq_true, if_false, if_true] at he
      (repeat (first | refine j0 ?_ | refine q7 rfl ?_ | refine z7 rfl ?_ | refine x6 ?_ | (refine x4 fun K hK => ?_) | (refine j4 (by kernel_rfl) (by kernel_rfl) fun K hK => ?_) | ((first | refine q6 ?_ | refine z6 ?_ | ((first | refine z2 (hK _ ?_) | refine j5 (hK _ _ (x5 (by kernel_rfl)) ?_)); clear hK K)); (first | show AWP _ _ _ _ _ | ((try simp only [q8]); first | show loopQ _ _ _ _ _ _ | show cutQ _ _ _ _ | show AWP _ _ _ _ _))) | ((first | refine z10 rfl rfl rfl ?_ | refine x10 rfl rfl rfl ?_); simp (maxSteps := 2000000) (disch := omega) only [go_sem, seval, hd, hopD, r1]; (first | refine ⟨_, hk, ?_⟩)) | ((first | refine x7 [] rfl ?_ | refine j7 [] rfl ?_); simp (maxSteps := 2000000) (disch := omega) only [go_sem, seval, hd, hopD, r1]; (repeat (first | refine ⟨by omega, ?_⟩ | refine ⟨True.intro, ?_⟩)))))
    · refine ⟨⟨i + 1, by omega, he⟩, by simp only []; omega, ?_⟩
      refine Weak.list ?_ ?_; (all_goals simp (disch := omega) only [AllF, AllL, x9, j9, q9, exists_eq_left', Option.some.injEq, go_sem, seval, hd, hopD, r1]); (all_goals (repeat' (with_reducible apply And.intro))); (all_goals try (first | exact j6 rfl | (refine q10 ?_; omega) | (refine j6 ?_; simp; done)))
    · refine z8 ⟨_, ?_, rfl⟩; rw [Try.results83]; simp (disch := omega) only [ResVars, ResVar, ptrLoc, go_sem, seval, hd, hopD, r1]
      rw [he]
  · have : i = l.length := by omega
    subst this
    rw [List.drop_length] at he
    unfold idxF at he
    (repeat (first | refine j0 ?_ | refine q7 rfl ?_ | refine z7 rfl ?_ | refine x6 ?_ | (refine x4 fun K hK => ?_) | (refine j4 (by kernel_rfl) (by kernel_rfl) fun K hK => ?_) | ((first | refine q6 ?_ | refine z6 ?_ | ((first | refine z2 (hK _ ?_) | refine j5 (hK _ _ (x5 (by kernel_rfl)) ?_)); clear hK K)); (first | show AWP _ _ _ _ _ | ((try simp only [q8]); first | show loopQ _ _ _ _ _ _ | show cutQ _ _ _ _ | show AWP _ _ _ _ _))) | ((first | refine x7 [] rfl ?_ | refine j7 [] rfl ?_); simp (maxSteps := 2000000) (disch := omega) only [go_sem, seval, hd, hopD]; (repeat (first | refine ⟨by omega, ?_⟩ | refine ⟨True.intro, ?_⟩)))))
    refine z8 ⟨_, ?_, rfl⟩; rw [Try.results83]; simp (disch := omega) only [ResVars, ResVar, ptrLoc, go_sem, seval, hd, hopD]
    rw [he]
theorem ContainsH_c (g : FuncId) (caps : List PV) (p : Hop → Bool) (l : List Hop) (hl : l.length ≤ 140737488355328) (hp : ∀ k ∈ l, ACalls Try.prog g (.agg (hopD k) :: caps) (· = [.d (.v (.bool (p k)))])) :
    ACalls Try.prog 60 [.d (.sl 5 l.length (rowH l)), .fn (.func g) [] caps] (· = [.d (.v (.bool (l.any p)))]) := by
  have ix := IndexH_c g caps p l hl hp
  have ia := idxF_any p l 0
  generalize idxF p l 0 = R at ix ia
  refine j10 Try.func60 rfl (by decide +kernel) (by rw [Try.ntmps60]; simp) ?_; rw [Try.ntmps60]; simp only [frOf]
  (repeat (first | refine j0 ?_ | refine q7 rfl ?_ | refine z7 rfl ?_ | refine x6 ?_ | (refine x4 fun K hK => ?_) | (refine j4 (by kernel_rfl) (by kernel_rfl) fun K hK => ?_) | ((first | refine q6 ?_ | refine z6 ?_ | ((first | refine z2 (hK _ ?_) | refine j5 (hK _ _ (x5 (by kernel_rfl)) ?_)); clear hK K)); (first | show AWP _ _ _ _ _ | ((try simp only [q8]); first | show loopQ _ _ _ _ _ _ | show cutQ _ _ _ _ | show AWP _ _ _ _ _))) | ((first | refine z10 rfl rfl rfl ?_ | refine x10 rfl rfl rfl ?_); simp (maxSteps := 2000000) (disch := omega) only [go_sem, seval, hd, hopD]; (first | refine ⟨_, ix, ?_⟩)) | ((first | refine x7 [] rfl ?_ | refine j7 [] rfl ?_); simp (maxSteps := 2000000) (disch := omega) only [go_sem, seval, hd, hopD]; (repeat (first | refine ⟨by omega, ?_⟩ | refine ⟨True.intro, ?_⟩)))))
  refine z8 ⟨_, ?_, rfl⟩; rw [Try.results60]; simp (disch := omega) only [ResVars, ResVar, ptrLoc, go_sem, seval, hd, hopD]
  rw [ia]
end Go.Proofs.Ytbiildleaelodaa
set_option linter.unusedSimpArgs false
set_option linter.unusedVariables false
namespace Go.Proofs.Ytbiildleaelodaa
open Go.Proofs.Ytbiildleaelodaa.AL
theorem eqI_reflW : ∀ l : List Int, eqI l l = true
  | [] => rfl
  | a :: r => by simp [eqI, eqI_reflW r]
end Go.Proofs.Ytbiildleaelodaa
set_option linter.unusedSimpArgs false
set_option linter.unusedVariables false
namespace Go.Proofs.Ytbiildleaelodaa
open Go Go.Proofs.Ytbiildleaelodaa.AL
def DLe (x y : Dat) : Prop := ∀ (w : World) (g : Nat → Nat) (v : Value), RelD w g v x → RelD w g v y
inductive DLes : List Dat → List Dat → Prop
  | nil : DLes [] []
  | cons {x y : Dat} {xs ys : List Dat} (h : DLe x y) (t : DLes xs ys) : DLes (x :: xs) (y :: ys)
theorem dle_refl (x : Dat) : DLe x x := fun _ _ _ h => h
theorem DLes.refl : ∀ xs : List Dat, DLes xs xs
  | [] => .nil
  | x :: xs => .cons (dle_refl x) (DLes.refl xs)
theorem DLes.of_eq {xs ys : List Dat} (h : xs = ys) : DLes xs ys := h ▸ DLes.refl xs
theorem DLes.length {xs ys : List Dat} (h : DLes xs ys) : xs.length = ys.length := by
  induction h with
  | nil => rfl
  | cons _ _ ih => simp [ih]
theorem DLes.at {xs ys : List Dat} (h : DLes xs ys) : ∀ {j : Nat} {y : Dat}, ys[j]? = some y → ∃ x, xs[j]? = some x ∧ DLe x y := by
  induction h with
  | nil => intro j y h; simp at h
  | cons h t ih =>
    intro j y hy
    cases j with
    | zero => simp at hy; subst hy; exact ⟨_, by simp, h⟩
    | succ j => simp at hy; obtain ⟨x, h1, h2⟩ := ih hy; exact ⟨x, by simpa using h1, h2⟩
theorem dle_sl {sz n n' : Nat} {f f' : Nat → List Dat} (hn : n = n') (hf : ∀ i, i < n → DLes (f i) (f' i)) : DLe (.sl sz n f) (.sl sz n' f') := by
  subst hn
  intro w g v r
  cases r with
  | sl0 a c sz f => exact .sl0 _ _ _ _
  | sl b off n c sz f u h1 h2 h3 h4 h5 =>
    refine .sl b off n c sz f' u h1 (fun i hi => by rw [← (hf i hi).length]; exact h2 i hi) h3 h4 (fun i j y hi hy => ?_)
    obtain ⟨x, k1, k2⟩ := (hf i hi).at hy
    exact k2 _ _ _ (h5 i j x hi k1)
theorem dle_emp {a : Option Addr} {c sz : Nat} {f : Nat → List Dat} : DLe (.v (.slice a 0 c)) (.sl sz 0 f) := by
  intro w g v r
  cases r
  exact .sl0 _ _ _ _
theorem ple_agg {xs ys : List Dat} (h : DLes xs ys) : PLe (.agg xs) (.agg ys) := by
  intro w g v r
  cases r with
  | agg vs _ h1 h2 =>
    refine .agg vs ys (by rw [h1, h.length]) (fun j v y hv hy => ?_)
    obtain ⟨x, k1, k2⟩ := h.at hy
    exact k2 _ _ _ (h2 j v x hv k1)
theorem acalls_agg {P : Program} {f : FuncId} {xs : List PV} {ds ds' : List Dat} (h : DLes ds ds') (c : ACalls P f xs (· = [.agg ds])) : ACalls P f xs (· = [.agg ds']) := by
  refine acalls_iff.2 fun w g vs hz hr => ?_
  have := acalls_iff.1 c w g vs hz hr
  unfold CallRes at *
  split at this
  · refine this.mono fun e w' ⟨v, he, g', rs, h1, h2, h3⟩ => ?_
    subst h2
    exact ⟨v, he, g', _, h1, rfl, ple_agg h _ _ _ h3⟩
  · obtain ⟨g', rs, h1, h2, h3⟩ := this
    subst h2
    exact ⟨g', _, h1, rfl, ple_agg h _ _ _ h3⟩
  · exact this.elim
end Go.Proofs.Ytbiildleaelodaa
set_option linter.unusedSimpArgs false
set_option linter.unusedVariables false
namespace Go.Proofs.Ytbiildleaelodaa
open Go.Proofs.Ytbiildleaelodaa.AL
def passW (l : List Hop) (n : Int) : Bool := l.any fun x => x.sw == n
theorem passed1_c (x : Hop) (n : Int) : ACalls Try.prog 61 [.agg (hopD x), .d (.bx [.v (.int .i64 n)])] (· = [.d (.v (.bool (x.sw == n)))]) := by
  generalize hq : (x.sw == n) = q
  refine j10 Try.func61 rfl (by decide +kernel) (by rw [Try.ntmps61]; simp) ?_; rw [Try.ntmps61]; simp only [frOf]
  (repeat (first | refine j0 ?_ | refine q7 rfl ?_ | refine z7 rfl ?_ | refine x6 ?_ | (refine x4 fun K hK => ?_) | (refine j4 (by kernel_rfl) (by kernel_rfl) fun K hK => ?_) | ((first | refine q6 ?_ | refine z6 ?_ | ((first | refine z2 (hK _ ?_) | refine j5 (hK _ _ (x5 (by kernel_rfl)) ?_)); clear hK K)); (first | show AWP _ _ _ _ _ | ((try simp only [q8]); first | show loopQ _ _ _ _ _ _ | show cutQ _ _ _ _ | show AWP _ _ _ _ _))) | ((first | refine x7 [] rfl ?_ | refine j7 [] rfl ?_); simp (maxSteps := 2000000) (disch := omega) only [go_sem, seval, hd, hopD, runD, hq]; (repeat (first | refine ⟨by omega, ?_⟩ | refine ⟨True.intro, ?_⟩)))))
  refine z8 ⟨_, ?_, rfl⟩; rw [Try.results61]; simp (disch := omega) only [ResVars, ResVar, ptrLoc, go_sem, seval, hd, hopD, runD, hq]
theorem Passed_c (en an ap : Int) (l : List Hop) (n : Int) (hl : l.length ≤ 140737488355328) : ACalls Try.prog 41 [.agg [.v (.int .i64 en), .v (.int .i64 an), .v (.int .i64 ap), .sl 5 l.length (rowH l)], .d (.v (.int .i64 n))] (· = [.d (.v (.bool (passW l n)))]) := by
  have cf := ContainsH_c 61 [.d (.bx [.v (.int .i64 n)])] (fun x => x.sw == n) l hl (fun k _ => passed1_c k n)
  unfold passW
  generalize l.any (fun x => x.sw == n) = b at cf
  refine j10 Try.func41 rfl (by decide +kernel) (by rw [Try.ntmps41]; simp) ?_; rw [Try.ntmps41]; simp only [frOf]
  (repeat (first | refine j0 ?_ | refine q7 rfl ?_ | refine z7 rfl ?_ | refine x6 ?_ | (refine x4 fun K hK => ?_) | (refine j4 (by kernel_rfl) (by kernel_rfl) fun K hK => ?_) | ((first | refine q6 ?_ | refine z6 ?_ | ((first | refine z2 (hK _ ?_) | refine j5 (hK _ _ (x5 (by kernel_rfl)) ?_)); clear hK K)); (first | show AWP _ _ _ _ _ | ((try simp only [q8]); first | show loopQ _ _ _ _ _ _ | show cutQ _ _ _ _ | show AWP _ _ _ _ _))) | ((first | refine z10 rfl rfl rfl ?_ | refine x10 rfl rfl rfl ?_); simp (maxSteps := 2000000) (disch := omega) only [go_sem, seval, hd, hopD, runD]; (first | refine ⟨_, cf, ?_⟩)) | ((first | refine x7 [] rfl ?_ | refine j7 [] rfl ?_); simp (maxSteps := 2000000) (disch := omega) only [go_sem, seval, hd, hopD, runD]; (repeat (first | refine ⟨by omega, ?_⟩ | refine ⟨True.intro, ?_⟩)))))
  refine z8 ⟨_, ?_, rfl⟩; rw [Try.results41]; simp (disch := omega) only [ResVars, ResVar, ptrLoc, go_sem, seval, hd, hopD, runD]
theorem stamp_ok {c : Config} {s : Spot} {v : Int} (he : stampE c s v = 0) : soundC c = 0 ∧ 0 ≤ v ∧ v ≤ 255 ∧ s ∈ edgesT c.tp := by
  unfold stampE at he
  split at he
  · rename_i h; exact absurd he h
  · rename_i h1
    split at he
    · cases he
    · split at he
      · cases he
      · rename_i h2 h3
        refine ⟨by omega, by omega, by omega, ?_⟩
        unfold edgesHas at h3
        simpa using h3
theorem edge_in {c : Config} {s : Spot} (hs : soundC c = 0) (hm : s ∈ edgesT c.tp) : ∃ n : Nat, s.sw = n ∧ InW c n 0 := by
  obtain ⟨i, j, rfl, g1, -, -⟩ := edgesT_at hm
  obtain ⟨p1, p2, p3⟩ := sound_parts hs
  exact ⟨i, rfl, by omega, g1, (soundTab_parts (p3 i (by omega))).1⟩
def runOf (c : Config) (s : Spot) (h : BitVec 128) (v : Int) : RunR := goW c 10800 s.sw.toNat 0 (setH h (stampV (edgeT c.tp s) v)) []
theorem Run_ok (c : Config) (s : Spot) (h : BitVec 128) (v : Int) (hc : c.small) (he : stampE c s v = 0) :
    ACalls Try.prog 36 [.agg (configD c), .agg (spotD s), .agg (hd h), .d (.v (.int .i64 v))] (· = [.agg (runD (runOf c s h v)), .d (.v (.int .i64 0))]) := by
  obtain ⟨h1, h2, h3, h4⟩ := stamp_ok he
  obtain ⟨n, hn, hw⟩ := edge_in h1 h4
  refine Run_good c s h v _ hc (by omega) he h1 n hn hw ?_
  unfold runOf
  rw [show stampC c s v = stampV (edgeT c.tp s) v from if_pos he, hn, Int.toNat_natCast]
def ringK : Config := ⟨[[⟨1, 0, 0, 0, 0⟩, ⟨2, 0, 1, 0, 1⟩], [⟨2, 0, 0, 1, 1⟩, ⟨1, 0, 0, 0, 0⟩]], ⟨1, [], []⟩, [[[⟨0, ⟨1, 1⟩, 3, 1, 0, ⟨0, 0⟩⟩]], [[⟨0, ⟨1, 1⟩, 2, 1, 0, ⟨0, 0⟩⟩]]]⟩
def iI (n : Int) : Dat := .v (.int .i64 n)
def iU (n : Int) : Dat := .v (.int .u64 n)
def pRaw (a b c d e : Int) : List Dat := [iI a, iI b, iI c, iI d, iI e]
def rRaw (k : Int) : List Dat := [iI 0, iU 0, iU 1, iU 0, iU 1, iI k, iI 1, iI 0, iU 0, iU 0, iU 0, iU 0]
def tRaw (k : Int) : List Dat := [.sl 1 1 fun i => [[.sl 12 1 fun i => [rRaw k].getD i []]].getD i []]
def ringRaw : List Dat := [.sl 1 2 fun i => [[.sl 5 2 fun i => [pRaw 1 0 0 0 0, pRaw 2 0 1 0 1].getD i []], [.sl 5 2 fun i => [pRaw 2 0 0 1 1, pRaw 1 0 0 0 0].getD i []]].getD i [], iI 1, .v (.slice none 0 0), .v (.slice none 0 0),
  .sl 1 2 fun i => [tRaw 3, tRaw 2].getD i []]
theorem two_lt {i : Nat} (h : i < 2) : i = 0 ∨ i = 1 := by omega
theorem rRaw_eq (k : Int) (i : Nat) (h : i < 1) : [rRaw k].getD i [] = rowR [⟨0, ⟨1, 1⟩, k, 1, 0, ⟨0, 0⟩⟩] i := by
  obtain rfl : i = 0 := by omega
  show _ = ruleD _
  unfold ruleD
  simp only [List.getD_cons_zero, hi_zero, lo_zero, show hi 1 = 0 from by decide, show lo 1 = 1 from by decide]
  rfl
theorem tRaw_le (k : Int) : DLes (tRaw k) [.sl 1 1 (rowRR [[⟨0, ⟨1, 1⟩, k, 1, 0, ⟨0, 0⟩⟩]])] := by
  refine .cons (dle_sl rfl fun i h => ?_) .nil
  obtain rfl : i = 0 := by omega
  exact .cons (dle_sl rfl fun i h => .of_eq (rRaw_eq k i h)) .nil
theorem ringRaw_le : DLes ringRaw (configD ringK) := by
  refine .cons (dle_sl rfl fun i h => ?_) (.cons (dle_refl _) (.cons dle_emp (.cons dle_emp (.cons (dle_sl rfl fun i h => ?_) .nil))))
  · rcases two_lt h with rfl | rfl
    · refine .cons (dle_sl rfl fun i h => ?_) .nil
      rcases two_lt h with rfl | rfl <;> exact .of_eq rfl
    · refine .cons (dle_sl rfl fun i h => ?_) .nil
      rcases two_lt h with rfl | rfl <;> exact .of_eq rfl
  · rcases two_lt h with rfl | rfl
    · exact tRaw_le 3
    · exact tRaw_le 2
set_option maxRecDepth 100000 in
set_option maxHeartbeats 4000000 in
theorem ring_c : ACalls Try.prog 53 [] (· = [.agg (configD ringK)]) := by
  refine acalls_agg ringRaw_le ?_
  unfold ringRaw tRaw rRaw pRaw iI iU
  refine j10 Try.func53 rfl (by decide +kernel) (by rw [Try.ntmps53]; simp) ?_; rw [Try.ntmps53]; simp only [frOf]
  (repeat (first | refine j0 ?_ | refine q7 rfl ?_ | refine z7 rfl ?_ | refine x6 ?_ | (refine x4 fun K hK => ?_) | (refine j4 (by kernel_rfl) (by kernel_rfl) fun K hK => ?_) | ((first | refine q6 ?_ | refine z6 ?_ | ((first | refine z2 (hK _ ?_) | refine j5 (hK _ _ (x5 (by kernel_rfl)) ?_)); clear hK K)); (first | show AWP _ _ _ _ _ | ((try simp only [q8]); first | show loopQ _ _ _ _ _ _ | show cutQ _ _ _ _ | show AWP _ _ _ _ _))) | ((first | refine x7 [0, 1, 2] rfl ?_ | refine j7 [0, 1, 2] rfl ?_); simp (maxSteps := 2000000) (disch := omega) only [go_sem, seval, hd, hopD, runD]; (repeat (first | refine ⟨by omega, ?_⟩ | refine ⟨True.intro, ?_⟩)))))
  refine z8 ⟨_, ?_, rfl⟩; rw [Try.results53]; simp (disch := omega) only [ResVars, ResVar, ptrLoc, go_sem, seval, hd, hopD, runD]
theorem ringK_small : ringK.small := by
  refine ⟨⟨by decide, ?_⟩, ⟨by decide, by decide⟩, by decide, ?_⟩
  · intro l h
    simp only [ringK, List.mem_cons, List.not_mem_nil, or_false] at h
    rcases h with rfl | rfl <;> decide
  · intro t h
    simp only [ringK, List.mem_cons, List.not_mem_nil, or_false] at h
    rcases h with rfl | rfl
    all_goals
      refine ⟨by decide, fun l h => ?_⟩
      simp only [List.mem_singleton] at h
      subst h; decide
end Go.Proofs.Ytbiildleaelodaa
set_option linter.unusedSimpArgs false
set_option linter.unusedVariables false
namespace Go.Proofs.Ytbiildleaelodaa
open Go.Proofs.Ytbiildleaelodaa.AL
set_option maxRecDepth 100000 in
set_option maxHeartbeats 4000000 in
theorem awake9_c : ACalls Try.prog 35 [] (· = [.d (.v (.bool true))]) := by
  have k0 := ring_c
  have he : stampE ringK ⟨0, 0⟩ 0 = 0 := by decide +kernel
  have k1 := Run_ok ringK ⟨0, 0⟩ 1#128 0 ringK_small he
  have k2 := Run_ok ringK ⟨0, 0⟩ 0#128 0 ringK_small he
  have a1 : (runOf ringK ⟨0, 0⟩ 1#128 0).en = 2 := by decide +kernel
  have a2 : (runOf ringK ⟨0, 0⟩ 1#128 0).an = 1 := by decide +kernel
  have a3 : (runOf ringK ⟨0, 0⟩ 1#128 0).ap = 1 := by decide +kernel
  have a4 : (runOf ringK ⟨0, 0⟩ 1#128 0).hops.length = 2 := by decide +kernel
  have a5 : passW (runOf ringK ⟨0, 0⟩ 1#128 0).hops 1 = true := by decide +kernel
  have a6 : passW (runOf ringK ⟨0, 0⟩ 1#128 0).hops 2 = false := by decide +kernel
  have b1 : (runOf ringK ⟨0, 0⟩ 0#128 0).en = 3 := by decide +kernel
  generalize runOf ringK ⟨0, 0⟩ 1#128 0 = R at *
  generalize runOf ringK ⟨0, 0⟩ 0#128 0 = R2 at *
  have k3 := Passed_c R.en R.an R.ap R.hops 1 (by omega)
  have k4 := Passed_c R.en R.an R.ap R.hops 2 (by omega)
  rw [a5, a1, a2, a3, a4] at k3
  rw [a6, a1, a2, a3, a4] at k4
  unfold runD at k1 k2
  rw [a1, a2, a3, a4] at k1
  rw [b1] at k2
  generalize rowH R.hops = rw1 at *
  generalize rowH R2.hops = rw2 at *
  generalize R2.hops.length = n2 at *
  rw [show hd 1#128 = [.v (.int .u64 0), .v (.int .u64 1)] from by unfold hd; rw [show hi 1#128 = 0 from by decide, show lo 1#128 = 1 from by decide]] at k1
  rw [show hd 0#128 = [.v (.int .u64 0), .v (.int .u64 0)] from by unfold hd; rw [hi0, lo0]] at k2
  have zz : eqI [1, 1] [1, 1] = true := rfl
  clear he
  generalize ringK = K at *
  unfold configD spotD at *
  refine j10 Try.func35 rfl (by decide +kernel) (by rw [Try.ntmps35]; simp) ?_; rw [Try.ntmps35]; simp only [frOf]
  (repeat (first | refine j0 ?_ | refine q7 rfl ?_ | refine z7 rfl ?_ | refine x6 ?_ | (refine x4 fun K hK => ?_) | (refine j4 (by kernel_rfl) (by kernel_rfl) fun K hK => ?_) | ((first | refine q6 ?_ | refine z6 ?_ | ((first | refine z2 (hK _ ?_) | refine j5 (hK _ _ (x5 (by kernel_rfl)) ?_)); clear hK K)); (first | show AWP _ _ _ _ _ | ((try simp only [q8]); first | show loopQ _ _ _ _ _ _ | show cutQ _ _ _ _ | show AWP _ _ _ _ _))) | ((first | refine z10 rfl rfl rfl ?_ | refine x10 rfl rfl rfl ?_); simp (maxSteps := 2000000) (disch := omega) only [go_sem, seval, hd, cb, ruleD, eqty80, eqty25, zz]; (first | refine ⟨_, k0, ?_⟩ | refine ⟨_, k1, ?_⟩ | refine ⟨_, k2, ?_⟩ | refine ⟨_, k3, ?_⟩ | refine ⟨_, k4, ?_⟩)) | ((first | refine x7 [1, 2, 4] rfl ?_ | refine j7 [1, 2, 4] rfl ?_); simp (maxSteps := 2000000) (disch := omega) only [go_sem, seval, hd, cb, ruleD, eqty80, eqty25, zz]; (repeat (first | refine ⟨by omega, ?_⟩ | refine ⟨True.intro, ?_⟩)))))
  refine z8 ⟨_, ?_, rfl⟩; rw [Try.results35]; simp (disch := omega) only [ResVars, ResVar, ptrLoc, go_sem, seval, hd, cb, ruleD, eqty80, eqty25, zz]
end Go.Proofs.Ytbiildleaelodaa
set_option linter.unusedSimpArgs false
set_option linter.unusedVariables false
namespace Go.Proofs.Ytbiildleaelodaa
open Go.Proofs.Ytbiildleaelodaa.AL
set_option maxRecDepth 100000 in
set_option maxHeartbeats 4000000 in
theorem WalkOnes_c (ts : List (List Rule)) (n : Int) (h : BitVec 128) (ht : smallR ts) : ACalls Try.prog 10 [.d (.sl 1 ts.length (rowRR ts)), .d (.v (.int .i64 n)), .agg (hd h)] (· = [.d (.v (.bool true))]) := by
  have k0 := awake9_c
  have k1 := One_c ts n h ht
  have hs := ht.1
  have zz : eqI [0, 0] [0, 0] = true := rfl
  by_cases h1 : n < 0 ∨ (ts.length : Int) ≤ n
  · have e : oneR ts n h = none := by unfold oneR; rw [if_pos h1]
    have e2 : oneH ts n h = 0#128 := by unfold oneH; rw [e]; rfl
    rw [e, e2] at k1
    simp only [Option.getD_none, Option.isSome_none] at k1
    rw [show hd 0#128 = [.v (.int .u64 0), .v (.int .u64 0)] from by unfold hd; rw [hi0, lo0]] at k1
    by_cases h2 : n < 0
    · refine j10 Try.func10 rfl (by decide +kernel) (by rw [Try.ntmps10]; simp) ?_; rw [Try.ntmps10]; simp only [frOf]
      (repeat (first | refine j0 ?_ | refine q7 rfl ?_ | refine z7 rfl ?_ | refine x6 ?_ | (refine x4 fun K hK => ?_) | (refine j4 (by kernel_rfl) (by kernel_rfl) fun K hK => ?_) | ((first | refine q6 ?_ | refine z6 ?_ | ((first | refine z2 (hK _ ?_) | refine j5 (hK _ _ (x5 (by kernel_rfl)) ?_)); clear hK K)); (first | show AWP _ _ _ _ _ | ((try simp only [q8]); first | show loopQ _ _ _ _ _ _ | show cutQ _ _ _ _ | show AWP _ _ _ _ _))) | ((first | refine z10 rfl rfl rfl ?_ | refine x10 rfl rfl rfl ?_); simp (maxSteps := 2000000) (disch := omega) only [go_sem, seval, hd, cb, ruleD, eqty80, eqty25, zz]; (first | refine ⟨_, k0, ?_⟩ | refine ⟨_, k1, ?_⟩)) | ((first | refine x7 [8] rfl ?_ | refine j7 [8] rfl ?_); simp (maxSteps := 2000000) (disch := omega) only [go_sem, seval, hd, cb, ruleD, eqty80, eqty25, zz]; (repeat (first | refine ⟨by omega, ?_⟩ | refine ⟨True.intro, ?_⟩)))))
      refine z8 ⟨_, ?_, rfl⟩; rw [Try.results10]; simp (disch := omega) only [ResVars, ResVar, ptrLoc, go_sem, seval, hd, cb, ruleD, eqty80, eqty25, zz]
    · refine j10 Try.func10 rfl (by decide +kernel) (by rw [Try.ntmps10]; simp) ?_; rw [Try.ntmps10]; simp only [frOf]
      (repeat (first | refine j0 ?_ | refine q7 rfl ?_ | refine z7 rfl ?_ | refine x6 ?_ | (refine x4 fun K hK => ?_) | (refine j4 (by kernel_rfl) (by kernel_rfl) fun K hK => ?_) | ((first | refine q6 ?_ | refine z6 ?_ | ((first | refine z2 (hK _ ?_) | refine j5 (hK _ _ (x5 (by kernel_rfl)) ?_)); clear hK K)); (first | show AWP _ _ _ _ _ | ((try simp only [q8]); first | show loopQ _ _ _ _ _ _ | show cutQ _ _ _ _ | show AWP _ _ _ _ _))) | ((first | refine z10 rfl rfl rfl ?_ | refine x10 rfl rfl rfl ?_); simp (maxSteps := 2000000) (disch := omega) only [go_sem, seval, hd, cb, ruleD, eqty80, eqty25, zz]; (first | refine ⟨_, k0, ?_⟩ | refine ⟨_, k1, ?_⟩)) | ((first | refine x7 [8] rfl ?_ | refine j7 [8] rfl ?_); simp (maxSteps := 2000000) (disch := omega) only [go_sem, seval, hd, cb, ruleD, eqty80, eqty25, zz]; (repeat (first | refine ⟨by omega, ?_⟩ | refine ⟨True.intro, ?_⟩)))))
      refine z8 ⟨_, ?_, rfl⟩; rw [Try.results10]; simp (disch := omega) only [ResVars, ResVar, ptrLoc, go_sem, seval, hd, cb, ruleD, eqty80, eqty25, zz]
  · obtain ⟨m, rfl⟩ : ∃ m : Nat, n = (m : Int) := ⟨n.toNat, by omega⟩
    have e : oneR ts (m : Int) h = findR (ts.getD m []) h := by unfold oneR; rw [if_neg h1]; rfl
    have r1 := rowRR_at ts m
    have hb := smallR_at ht m
    have k2 := FindRef_c (ts.getD m []) h (by omega)
    rw [← find_best] at k2
    cases hf : findR (ts.getD m []) h with
    | none =>
      have e2 : oneH ts (m : Int) h = 0#128 := by unfold oneH; rw [e, hf]; rfl
      rw [e, e2, hf] at k1
      rw [hf] at k2
      simp only [Option.getD_none, Option.isSome_none] at k1 k2
      rw [show hd 0#128 = [.v (.int .u64 0), .v (.int .u64 0)] from by unfold hd; rw [hi0, lo0]] at k1
      clear e e2 hf
      generalize ts.getD m [] = l at *
      refine j10 Try.func10 rfl (by decide +kernel) (by rw [Try.ntmps10]; simp) ?_; rw [Try.ntmps10]; simp only [frOf]
      (repeat (first | refine j0 ?_ | refine q7 rfl ?_ | refine z7 rfl ?_ | refine x6 ?_ | (refine x4 fun K hK => ?_) | (refine j4 (by kernel_rfl) (by kernel_rfl) fun K hK => ?_) | ((first | refine q6 ?_ | refine z6 ?_ | ((first | refine z2 (hK _ ?_) | refine j5 (hK _ _ (x5 (by kernel_rfl)) ?_)); clear hK K)); (first | show AWP _ _ _ _ _ | ((try simp only [q8]); first | show loopQ _ _ _ _ _ _ | show cutQ _ _ _ _ | show AWP _ _ _ _ _))) | ((first | refine z10 rfl rfl rfl ?_ | refine x10 rfl rfl rfl ?_); simp (maxSteps := 2000000) (disch := omega) only [go_sem, seval, hd, cb, ruleD, eqty80, eqty25, zz, r1]; (first | refine ⟨_, k0, ?_⟩ | refine ⟨_, k1, ?_⟩ | refine ⟨_, k2, ?_⟩)) | ((first | refine x7 [8] rfl ?_ | refine j7 [8] rfl ?_); simp (maxSteps := 2000000) (disch := omega) only [go_sem, seval, hd, cb, ruleD, eqty80, eqty25, zz, r1]; (repeat (first | refine ⟨by omega, ?_⟩ | refine ⟨True.intro, ?_⟩)))))
      refine z8 ⟨_, ?_, rfl⟩; rw [Try.results10]; simp (disch := omega) only [ResVars, ResVar, ptrLoc, go_sem, seval, hd, cb, ruleD, eqty80, eqty25, zz, r1]
    | some a =>
      have e2 : oneH ts (m : Int) h = setH h ((ts.getD m []).getD a r0).st := by unfold oneH; rw [e, hf]; rfl
      have hal := findR_lt hf
      rw [e, e2, hf] at k1
      rw [hf] at k2
      simp only [Option.getD_some, Option.isSome_some] at k1 k2
      clear e e2 hf
      generalize ts.getD m [] = l at *
      have r2 := rowR_at l a
      generalize l.getD a r0 = x at *
      have k3 := SetT_c h x.st
      generalize setH h x.st = g at *
      have q1 : ((a : Int) == (a : Int)) = true := ieq_tt rfl
      refine j10 Try.func10 rfl (by decide +kernel) (by rw [Try.ntmps10]; simp) ?_; rw [Try.ntmps10]; simp only [frOf]
      (repeat (first | refine j0 ?_ | refine q7 rfl ?_ | refine z7 rfl ?_ | refine x6 ?_ | (refine x4 fun K hK => ?_) | (refine j4 (by kernel_rfl) (by kernel_rfl) fun K hK => ?_) | ((first | refine q6 ?_ | refine z6 ?_ | ((first | refine z2 (hK _ ?_) | refine j5 (hK _ _ (x5 (by kernel_rfl)) ?_)); clear hK K)); (first | show AWP _ _ _ _ _ | ((try simp only [q8]); first | show loopQ _ _ _ _ _ _ | show cutQ _ _ _ _ | show AWP _ _ _ _ _))) | ((first | refine z10 rfl rfl rfl ?_ | refine x10 rfl rfl rfl ?_); simp (maxSteps := 2000000) (disch := omega) only [go_sem, seval, hd, cb, ruleD, eqty80, eqty25, eqI_reflW, r1, r2, q1]; (first | refine ⟨_, k0, ?_⟩ | refine ⟨_, k1, ?_⟩ | refine ⟨_, k2, ?_⟩ | refine ⟨_, k3, ?_⟩)) | ((first | refine x7 [8] rfl ?_ | refine j7 [8] rfl ?_); simp (maxSteps := 2000000) (disch := omega) only [go_sem, seval, hd, cb, ruleD, eqty80, eqty25, eqI_reflW, r1, r2, q1]; (repeat (first | refine ⟨by omega, ?_⟩ | refine ⟨True.intro, ?_⟩)))))
      refine z8 ⟨_, ?_, rfl⟩; rw [Try.results10]; simp (disch := omega) only [ResVars, ResVar, ptrLoc, go_sem, seval, hd, cb, ruleD, eqty80, eqty25, eqI_reflW, r1, r2, q1]
end Go.Proofs.Ytbiildleaelodaa
