/- Part 4 of a proof: lemmas beneath the theorem that the last text bears. Conditions: none. -/
import Derived.Test.YtbamjcnhmmgnlaaKPredsAlikec
set_option linter.unusedSimpArgs false
set_option linter.unusedVariables false
namespace Go.Proofs.Ytbamjcnhmmgnlaa
open Go.Proofs.Ytbamjcnhmmgnlaa.AL
def rowTT (l : List (List (List Rule))) : Nat → List Dat := fun i => [.sl 1 (l.getD i []).length (rowRR (l.getD i []))]
theorem rowTT_at (l : List (List (List Rule))) (i : Nat) : rowTT l i = [.sl 1 (l.getD i []).length (rowRR (l.getD i []))] := rfl
structure Config where
  tp : List (List Port)
  po : Policy
  tb : List (List (List Rule))
def configD (c : Config) : List Dat := [.sl 1 c.tp.length (rowPP c.tp), .v (.int .i64 c.po.tn), .sl 2 c.po.peers.length (rowA c.po.peers), .sl 3 c.po.ways.length (rowW c.po.ways), .sl 1 c.tb.length (rowTT c.tb)]
structure Config.small (c : Config) : Prop where
  tp : Go.Proofs.Ytbamjcnhmmgnlaa.small c.tp
  po : c.po.small
  tb : c.tb.length ≤ 1048576
  tabs : ∀ t ∈ c.tb, smallR t
theorem smallR_nil : smallR [] := ⟨by simp, fun l h => by simp at h⟩
theorem Config.small.at {c : Config} (h : c.small) (i : Nat) : smallR (c.tb.getD i []) := by
  by_cases hi : i < c.tb.length
  · exact h.tabs _ (getD_in hi [])
  · rw [List.getD_eq_getElem?_getD, List.getElem?_eq_none (by omega)]; exact smallR_nil
theorem edgesT_at {t : List (List Port)} {s : Spot} (h : s ∈ edgesT t) : ∃ i j : Nat, s = ⟨i, j⟩ ∧ i < t.length ∧ j < (t.getD i []).length ∧ edgeT t s = ((t.getD i []).getD j p0).tn := by
  obtain ⟨i, j, h1, h2, h3, rfl⟩ := edgesTo_mem.1 h
  refine ⟨i, j, rfl, h1, h2, ?_⟩
  unfold edgeT
  rw [if_neg (by simp only []; omega), if_neg (by simp only [Int.toNat_natCast]; omega), if_pos (by simp only [Int.toNat_natCast]; exact h3)]
  simp only [Int.toNat_natCast]
def edgeOk (c : Config) (i : Nat) : Bool := tenantP c.po (edgeT c.tp ((edgesT c.tp).getD i s0))
def sizesB (c : Config) : Bool := allF (edgeOk c) (edgesT c.tp).length 0
def sizesC (c : Config) : Bool := if c.po.tn < 1 ∨ 4 < c.po.tn ∨ 16 < c.po.peers.length ∨ 4 < c.po.ways.length then false else sizesB c
theorem sizes_cases (tn : Int) (a b : Nat) : tn < 1 ∨ (¬ tn < 1 ∧ 4 < tn) ∨ (¬ tn < 1 ∧ ¬ 4 < tn ∧ 16 < a) ∨ (¬ tn < 1 ∧ ¬ 4 < tn ∧ ¬ 16 < a ∧ 4 < b) ∨ (¬ tn < 1 ∧ ¬ 4 < tn ∧ ¬ 16 < a ∧ ¬ 4 < b) := by omega
def sizesI (c : Config) (l : List Spot) (R : Bool) (s : {i : Nat // i ≤ l.length ∧ allF (edgeOk c) l.length i = R}) : ASt :=
  ⟨[(32, .p (.d (.v (.int .i64 (s.val : Int))))), (31, .p (.d (.v (.int .i64 (l.length : Int))))), (30, .p (.d (.sl 2 l.length (rowS l)))), (3, .loc 3 0), (1, .p (.d (.bx (configD c))))],
   [(3, .cells 60 [.p (.d (.v (.int .i64 c.po.tn))), .p (.d (.sl 2 c.po.peers.length (rowA c.po.peers))), .p (.d (.sl 3 c.po.ways.length (rowW c.po.ways)))])]⟩
set_option maxRecDepth 100000 in
set_option maxHeartbeats 4000000 in
theorem sizes_c (c : Config) (hc : c.small) : ACalls Try.prog 80 [.agg (configD c)] (· = [.d (.v (.bool (sizesC c)))]) := by
  have hp := hc.po
  have hl1 := hp.1
  have hl2 := hp.2
  have ed := EdgesT_c c.tp hc.tp
  have eb := edgesTo_len hc.tp c.tp.length
  have et := hc.tp.1
  rw [show edgesTo c.tp c.tp.length = edgesT c.tp from rfl] at eb
  unfold sizesC
  simp only [topoD] at ed
  rcases sizes_cases c.po.tn c.po.peers.length c.po.ways.length with h1 | ⟨h1, h2⟩ | ⟨h1, h2, h3⟩ | ⟨h1, h2, h3, h4⟩ | ⟨h1, h2, h3, h4⟩
  case' inr.inr.inr.inr =>
    rw [if_neg (by omega)]
    unfold sizesB
    have hin := fun i (h : i < (edgesT c.tp).length) => edgesT_at (getD_in h s0)
    have hok : ∀ i, edgeOk c i = tenantP c.po (edgeT c.tp ((edgesT c.tp).getD i s0)) := fun i => rfl
    generalize edgesT c.tp = l at ed eb hin hok
    generalize hR : allF (edgeOk c) l.length 0 = R
    refine q11 Try.func80 rfl (by decide +kernel) (by rw [Try.ntmps80]; simp) ?_; rw [Try.ntmps80]; simp only [frOf]
    (repeat (first | refine j0 ?_ | refine q7 rfl ?_ | refine z7 rfl ?_ | refine x6 ?_ | (refine z5 fun K hK => ?_) | (refine j5 (by kernel_rfl) (by kernel_rfl) fun K hK => ?_) | ((first | refine q6 ?_ | refine z6 ?_ | ((first | refine z3 (hK _ ?_) | refine j4 (hK _ _ (z4 (by kernel_rfl)) ?_)); clear hK K)); (first | show AWP _ _ _ _ _ | ((try simp only [j6]); first | show loopQ _ _ _ _ _ _ | show cutQ _ _ _ _ | show AWP _ _ _ _ _))) | ((first | refine z9 rfl rfl rfl ?_ | refine x9 rfl rfl rfl ?_); simp (maxSteps := 2000000) (disch := omega) only [go_sem, seval, policyD, wayD, pairD, spotD, topoD, configD, j10]; (first | refine ⟨_, ed, ?_⟩)) | ((first | refine x7 [] rfl ?_ | refine j7 [] rfl ?_); simp (maxSteps := 2000000) (disch := omega) only [go_sem, seval, policyD, wayD, pairD, spotD, topoD, configD, j10]; (repeat (first | refine ⟨by omega, ?_⟩ | refine ⟨True.intro, ?_⟩)))))
    refine awp_loop (sizesI c l R) (fun s => l.length - s.val) ⟨0, Nat.zero_le _, hR⟩ ?_ (fun s => ?_)
    · unfold sizesI
      refine Weak.list ?_ ?_; (all_goals simp (disch := omega) only [AllF, AllL, q10, z10, j9, exists_eq_left', Option.some.injEq, go_sem, seval, policyD, wayD, pairD, spotD, topoD, configD, j10]); (all_goals (repeat' (with_reducible apply And.intro))); (all_goals try (first | exact q8 rfl | (refine x10 ?_; omega) | (refine q8 ?_; simp; done)))
    obtain ⟨i, hi, hr⟩ := s
    unfold sizesI
    simp only [] at hi hr ⊢
    by_cases h : i < l.length
    · rw [allF_step h, hok] at hr
      have r1 := rowS_at l i
      obtain ⟨n, k, e1, e2, e3, e4⟩ := hin i h
      rw [e4] at hr
      rw [e1] at r1
      simp only [spotD] at r1
      have r2 := rowPP_at c.tp n
      have r3 := rowP_at (c.tp.getD n []) k
      have l1 := small_at hc.tp n
      generalize c.tp.getD n [] = ps at r2 r3 e3 hr l1
      generalize ps.getD k p0 = p at r3 hr
      obtain ⟨kd, tn, pe, at', co⟩ := p
      simp only [portD] at r3
      simp only [] at hr
      have ct := tenant_c c.po tn
      simp only [policyD] at ct
      generalize tenantP c.po tn = b at hr ct
      cases b
      · rw [Bool.false_and] at hr
        subst hr
        (repeat (first | refine j0 ?_ | refine q7 rfl ?_ | refine z7 rfl ?_ | refine x6 ?_ | (refine z5 fun K hK => ?_) | (refine j5 (by kernel_rfl) (by kernel_rfl) fun K hK => ?_) | ((first | refine q6 ?_ | refine z6 ?_ | ((first | refine z3 (hK _ ?_) | refine j4 (hK _ _ (z4 (by kernel_rfl)) ?_)); clear hK K)); (first | show AWP _ _ _ _ _ | ((try simp only [j6]); first | show loopQ _ _ _ _ _ _ | show cutQ _ _ _ _ | show AWP _ _ _ _ _))) | ((first | refine z9 rfl rfl rfl ?_ | refine x9 rfl rfl rfl ?_); simp (maxSteps := 2000000) (disch := omega) only [go_sem, seval, policyD, wayD, pairD, spotD, topoD, configD, j10, r1, r2, r3]; (first | refine ⟨_, ct, ?_⟩)) | ((first | refine x7 [] rfl ?_ | refine j7 [] rfl ?_); simp (maxSteps := 2000000) (disch := omega) only [go_sem, seval, policyD, wayD, pairD, spotD, topoD, configD, j10, r1, r2, r3]; (repeat (first | refine ⟨by omega, ?_⟩ | refine ⟨True.intro, ?_⟩)))))
        refine j8 ⟨_, ?_, rfl⟩; rw [Try.results80]; simp (disch := omega) only [ResVars, ResVar, ptrLoc, go_sem, seval, policyD, wayD, pairD, spotD, topoD, configD, j10, r1, r2, r3]
      · rw [Bool.true_and] at hr
        (repeat (first | refine j0 ?_ | refine q7 rfl ?_ | refine z7 rfl ?_ | refine x6 ?_ | (refine z5 fun K hK => ?_) | (refine j5 (by kernel_rfl) (by kernel_rfl) fun K hK => ?_) | ((first | refine q6 ?_ | refine z6 ?_ | ((first | refine z3 (hK _ ?_) | refine j4 (hK _ _ (z4 (by kernel_rfl)) ?_)); clear hK K)); (first | show AWP _ _ _ _ _ | ((try simp only [j6]); first | show loopQ _ _ _ _ _ _ | show cutQ _ _ _ _ | show AWP _ _ _ _ _))) | ((first | refine z9 rfl rfl rfl ?_ | refine x9 rfl rfl rfl ?_); simp (maxSteps := 2000000) (disch := omega) only [go_sem, seval, policyD, wayD, pairD, spotD, topoD, configD, j10, r1, r2, r3]; (first | refine ⟨_, ct, ?_⟩)) | ((first | refine x7 [] rfl ?_ | refine j7 [] rfl ?_); simp (maxSteps := 2000000) (disch := omega) only [go_sem, seval, policyD, wayD, pairD, spotD, topoD, configD, j10, r1, r2, r3]; (repeat (first | refine ⟨by omega, ?_⟩ | refine ⟨True.intro, ?_⟩)))))
        refine ⟨⟨i + 1, by omega, hr⟩, by simp only []; omega, ?_⟩
        refine Weak.list ?_ ?_; (all_goals simp (disch := omega) only [AllF, AllL, q10, z10, j9, exists_eq_left', Option.some.injEq, go_sem, seval, policyD, wayD, pairD, spotD, topoD, configD, j10, r1, r2, r3]); (all_goals (repeat' (with_reducible apply And.intro))); (all_goals try (first | exact q8 rfl | (refine x10 ?_; omega) | (refine q8 ?_; simp; done)))
    · rw [allF_done (by omega)] at hr
      subst hr
      (repeat (first | refine j0 ?_ | refine q7 rfl ?_ | refine z7 rfl ?_ | refine x6 ?_ | (refine z5 fun K hK => ?_) | (refine j5 (by kernel_rfl) (by kernel_rfl) fun K hK => ?_) | ((first | refine q6 ?_ | refine z6 ?_ | ((first | refine z3 (hK _ ?_) | refine j4 (hK _ _ (z4 (by kernel_rfl)) ?_)); clear hK K)); (first | show AWP _ _ _ _ _ | ((try simp only [j6]); first | show loopQ _ _ _ _ _ _ | show cutQ _ _ _ _ | show AWP _ _ _ _ _))) | ((first | refine x7 [] rfl ?_ | refine j7 [] rfl ?_); simp (maxSteps := 2000000) (disch := omega) only [go_sem, seval, policyD, wayD, pairD, spotD, topoD, configD, j10]; (repeat (first | refine ⟨by omega, ?_⟩ | refine ⟨True.intro, ?_⟩)))))
      refine j8 ⟨_, ?_, rfl⟩; rw [Try.results80]; simp (disch := omega) only [ResVars, ResVar, ptrLoc, go_sem, seval, policyD, wayD, pairD, spotD, topoD, configD, j10]
  all_goals
    rw [if_pos (by omega)]
    refine q11 Try.func80 rfl (by decide +kernel) (by rw [Try.ntmps80]; simp) ?_; rw [Try.ntmps80]; simp only [frOf]
    (repeat (first | refine j0 ?_ | refine q7 rfl ?_ | refine z7 rfl ?_ | refine x6 ?_ | (refine z5 fun K hK => ?_) | (refine j5 (by kernel_rfl) (by kernel_rfl) fun K hK => ?_) | ((first | refine q6 ?_ | refine z6 ?_ | ((first | refine z3 (hK _ ?_) | refine j4 (hK _ _ (z4 (by kernel_rfl)) ?_)); clear hK K)); (first | show AWP _ _ _ _ _ | ((try simp only [j6]); first | show loopQ _ _ _ _ _ _ | show cutQ _ _ _ _ | show AWP _ _ _ _ _))) | ((first | refine x7 [] rfl ?_ | refine j7 [] rfl ?_); simp (maxSteps := 2000000) (disch := omega) only [go_sem, seval, policyD, wayD, pairD, spotD, topoD, configD, j10]; (repeat (first | refine ⟨by omega, ?_⟩ | refine ⟨True.intro, ?_⟩)))))
    refine j8 ⟨_, ?_, rfl⟩; rw [Try.results80]; simp (disch := omega) only [ResVars, ResVar, ptrLoc, go_sem, seval, policyD, wayD, pairD, spotD, topoD, configD, j10]
def pairOk (c : Config) (i : Nat) : Bool := tenantP c.po (c.po.peers.getD i (0, 0)).1 && tenantP c.po (c.po.peers.getD i (0, 0)).2
def wayOk (c : Config) (i : Nat) : Bool := tenantP c.po (c.po.ways.getD i w0).fr && tenantP c.po (c.po.ways.getD i w0).to && decide (0 ≤ (c.po.ways.getD i w0).via) && decide ((c.po.ways.getD i w0).via < c.tp.length)
def policyC (c : Config) : Bool := allF (pairOk c) c.po.peers.length 0 && allF (wayOk c) c.po.ways.length 0
def polyI (c : Config) (R : Bool) (s : {i : Nat // i ≤ c.po.peers.length ∧ (allF (pairOk c) c.po.peers.length i && allF (wayOk c) c.po.ways.length 0) = R}) : ASt :=
  ⟨[(13, .p (.d (.v (.int .i64 (s.val : Int))))), (12, .p (.d (.v (.int .i64 (c.po.peers.length : Int))))), (11, .p (.d (.sl 2 c.po.peers.length (rowA c.po.peers)))), (3, .loc 3 0), (1, .p (.d (.bx (configD c))))],
   [(3, .cells 60 [.p (.d (.v (.int .i64 c.po.tn))), .p (.d (.sl 2 c.po.peers.length (rowA c.po.peers))), .p (.d (.sl 3 c.po.ways.length (rowW c.po.ways)))])]⟩
def polyJ (c : Config) (R : Bool) (s : {i : Nat // i ≤ c.po.ways.length ∧ allF (wayOk c) c.po.ways.length i = R}) : ASt :=
  ⟨[(33, .p (.d (.v (.int .i64 (s.val : Int))))), (32, .p (.d (.v (.int .i64 (c.po.ways.length : Int))))), (31, .p (.d (.sl 3 c.po.ways.length (rowW c.po.ways)))), (3, .loc 3 0), (1, .p (.d (.bx (configD c))))],
   [(3, .cells 60 [.p (.d (.v (.int .i64 c.po.tn))), .p (.d (.sl 2 c.po.peers.length (rowA c.po.peers))), .p (.d (.sl 3 c.po.ways.length (rowW c.po.ways)))])]⟩
set_option maxRecDepth 100000 in
set_option maxHeartbeats 4000000 in
theorem policy_c (c : Config) (hc : c.small) : ACalls Try.prog 81 [.agg (configD c)] (· = [.d (.v (.bool (policyC c)))]) := by
  have hl1 := hc.po.1
  have hl2 := hc.po.2
  have et := hc.tp.1
  unfold policyC
  generalize hR : (allF (pairOk c) c.po.peers.length 0 && allF (wayOk c) c.po.ways.length 0) = R
  refine q11 Try.func81 rfl (by decide +kernel) (by rw [Try.ntmps81]; simp) ?_; rw [Try.ntmps81]; simp only [frOf]
  (repeat (first | refine j0 ?_ | refine q7 rfl ?_ | refine z7 rfl ?_ | refine x6 ?_ | (refine z5 fun K hK => ?_) | (refine j5 (by kernel_rfl) (by kernel_rfl) fun K hK => ?_) | ((first | refine q6 ?_ | refine z6 ?_ | ((first | refine z3 (hK _ ?_) | refine j4 (hK _ _ (z4 (by kernel_rfl)) ?_)); clear hK K)); (first | show AWP _ _ _ _ _ | ((try simp only [j6]); first | show loopQ _ _ _ _ _ _ | show cutQ _ _ _ _ | show AWP _ _ _ _ _))) | ((first | refine x7 [] rfl ?_ | refine j7 [] rfl ?_); simp (maxSteps := 2000000) (disch := omega) only [go_sem, seval, policyD, wayD, pairD, spotD, topoD, configD, j10]; (repeat (first | refine ⟨by omega, ?_⟩ | refine ⟨True.intro, ?_⟩)))))
  refine awp_loop (polyI c R) (fun s => c.po.peers.length - s.val) ⟨0, Nat.zero_le _, hR⟩ ?_ (fun s => ?_)
  · unfold polyI
    refine Weak.list ?_ ?_; (all_goals simp (disch := omega) only [AllF, AllL, q10, z10, j9, exists_eq_left', Option.some.injEq, go_sem, seval, policyD, wayD, pairD, spotD, topoD, configD, j10]); (all_goals (repeat' (with_reducible apply And.intro))); (all_goals try (first | exact q8 rfl | (refine x10 ?_; omega) | (refine q8 ?_; simp; done)))
  obtain ⟨i, hi, hr⟩ := s
  unfold polyI
  simp only [] at hi hr ⊢
  by_cases h : i < c.po.peers.length
  · have hok : pairOk c i = (tenantP c.po (c.po.peers.getD i (0, 0)).1 && tenantP c.po (c.po.peers.getD i (0, 0)).2) := rfl
    rw [allF_step h, hok] at hr
    have r1 := rowA_at c.po.peers i
    generalize c.po.peers.getD i (0, 0) = x at r1 hr
    obtain ⟨x1, x2⟩ := x
    simp only [pairD] at r1
    simp only [] at hr
    have c1 := tenant_c c.po x1
    have c2 := tenant_c c.po x2
    simp only [policyD] at c1 c2
    generalize tenantP c.po x1 = b1 at c1 hr
    generalize tenantP c.po x2 = b2 at c2 hr
    cases b1
    · simp only [Bool.false_and] at hr
      subst hr
      (repeat (first | refine j0 ?_ | refine q7 rfl ?_ | refine z7 rfl ?_ | refine x6 ?_ | (refine z5 fun K hK => ?_) | (refine j5 (by kernel_rfl) (by kernel_rfl) fun K hK => ?_) | ((first | refine q6 ?_ | refine z6 ?_ | ((first | refine z3 (hK _ ?_) | refine j4 (hK _ _ (z4 (by kernel_rfl)) ?_)); clear hK K)); (first | show AWP _ _ _ _ _ | ((try simp only [j6]); first | show loopQ _ _ _ _ _ _ | show cutQ _ _ _ _ | show AWP _ _ _ _ _))) | ((first | refine z9 rfl rfl rfl ?_ | refine x9 rfl rfl rfl ?_); simp (maxSteps := 2000000) (disch := omega) only [go_sem, seval, policyD, wayD, pairD, spotD, topoD, configD, j10, r1]; (first | refine ⟨_, c1, ?_⟩)) | ((first | refine x7 [] rfl ?_ | refine j7 [] rfl ?_); simp (maxSteps := 2000000) (disch := omega) only [go_sem, seval, policyD, wayD, pairD, spotD, topoD, configD, j10, r1]; (repeat (first | refine ⟨by omega, ?_⟩ | refine ⟨True.intro, ?_⟩)))))
      refine j8 ⟨_, ?_, rfl⟩; rw [Try.results81]; simp (disch := omega) only [ResVars, ResVar, ptrLoc, go_sem, seval, policyD, wayD, pairD, spotD, topoD, configD, j10, r1]
    · cases b2
      · simp only [Bool.true_and, Bool.false_and] at hr
        subst hr
        (repeat (first | refine j0 ?_ | refine q7 rfl ?_ | refine z7 rfl ?_ | refine x6 ?_ | (refine z5 fun K hK => ?_) | (refine j5 (by kernel_rfl) (by kernel_rfl) fun K hK => ?_) | ((first | refine q6 ?_ | refine z6 ?_ | ((first | refine z3 (hK _ ?_) | refine j4 (hK _ _ (z4 (by kernel_rfl)) ?_)); clear hK K)); (first | show AWP _ _ _ _ _ | ((try simp only [j6]); first | show loopQ _ _ _ _ _ _ | show cutQ _ _ _ _ | show AWP _ _ _ _ _))) | ((first | refine z9 rfl rfl rfl ?_ | refine x9 rfl rfl rfl ?_); simp (maxSteps := 2000000) (disch := omega) only [go_sem, seval, policyD, wayD, pairD, spotD, topoD, configD, j10, r1]; (first | refine ⟨_, c1, ?_⟩ | refine ⟨_, c2, ?_⟩)) | ((first | refine x7 [] rfl ?_ | refine j7 [] rfl ?_); simp (maxSteps := 2000000) (disch := omega) only [go_sem, seval, policyD, wayD, pairD, spotD, topoD, configD, j10, r1]; (repeat (first | refine ⟨by omega, ?_⟩ | refine ⟨True.intro, ?_⟩)))))
        refine j8 ⟨_, ?_, rfl⟩; rw [Try.results81]; simp (disch := omega) only [ResVars, ResVar, ptrLoc, go_sem, seval, policyD, wayD, pairD, spotD, topoD, configD, j10, r1]
      · simp only [Bool.true_and] at hr
        (repeat (first | refine j0 ?_ | refine q7 rfl ?_ | refine z7 rfl ?_ | refine x6 ?_ | (refine z5 fun K hK => ?_) | (refine j5 (by kernel_rfl) (by kernel_rfl) fun K hK => ?_) | ((first | refine q6 ?_ | refine z6 ?_ | ((first | refine z3 (hK _ ?_) | refine j4 (hK _ _ (z4 (by kernel_rfl)) ?_)); clear hK K)); (first | show AWP _ _ _ _ _ | ((try simp only [j6]); first | show loopQ _ _ _ _ _ _ | show cutQ _ _ _ _ | show AWP _ _ _ _ _))) | ((first | refine z9 rfl rfl rfl ?_ | refine x9 rfl rfl rfl ?_); simp (maxSteps := 2000000) (disch := omega) only [go_sem, seval, policyD, wayD, pairD, spotD, topoD, configD, j10, r1]; (first | refine ⟨_, c1, ?_⟩ | refine ⟨_, c2, ?_⟩)) | ((first | refine x7 [] rfl ?_ | refine j7 [] rfl ?_); simp (maxSteps := 2000000) (disch := omega) only [go_sem, seval, policyD, wayD, pairD, spotD, topoD, configD, j10, r1]; (repeat (first | refine ⟨by omega, ?_⟩ | refine ⟨True.intro, ?_⟩)))))
        refine ⟨⟨i + 1, by omega, hr⟩, by simp only []; omega, ?_⟩
        refine Weak.list ?_ ?_; (all_goals simp (disch := omega) only [AllF, AllL, q10, z10, j9, exists_eq_left', Option.some.injEq, go_sem, seval, policyD, wayD, pairD, spotD, topoD, configD, j10, r1]); (all_goals (repeat' (with_reducible apply And.intro))); (all_goals try (first | exact q8 rfl | (refine x10 ?_; omega) | (refine q8 ?_; simp; done)))
  · rw [allF_done (show c.po.peers.length ≤ i by omega), Bool.true_and] at hr
    (repeat (first | refine j0 ?_ | refine q7 rfl ?_ | refine z7 rfl ?_ | refine x6 ?_ | (refine z5 fun K hK => ?_) | (refine j5 (by kernel_rfl) (by kernel_rfl) fun K hK => ?_) | ((first | refine q6 ?_ | refine z6 ?_ | ((first | refine z3 (hK _ ?_) | refine j4 (hK _ _ (z4 (by kernel_rfl)) ?_)); clear hK K)); (first | show AWP _ _ _ _ _ | ((try simp only [j6]); first | show loopQ _ _ _ _ _ _ | show cutQ _ _ _ _ | show AWP _ _ _ _ _))) | ((first | refine x7 [] rfl ?_ | refine j7 [] rfl ?_); simp (maxSteps := 2000000) (disch := omega) only [go_sem, seval, policyD, wayD, pairD, spotD, topoD, configD, j10]; (repeat (first | refine ⟨by omega, ?_⟩ | refine ⟨True.intro, ?_⟩)))))
    refine awp_loop (polyJ c R) (fun s => c.po.ways.length - s.val) ⟨0, Nat.zero_le _, hr⟩ ?_ (fun s => ?_)
    · unfold polyJ
      refine Weak.list ?_ ?_; (all_goals simp (disch := omega) only [AllF, AllL, q10, z10, j9, exists_eq_left', Option.some.injEq, go_sem, seval, policyD, wayD, pairD, spotD, topoD, configD, j10]); (all_goals (repeat' (with_reducible apply And.intro))); (all_goals try (first | exact q8 rfl | (refine x10 ?_; omega) | (refine q8 ?_; simp; done)))
    obtain ⟨i, hi, hr⟩ := s
    unfold polyJ
    simp only [] at hi hr ⊢
    by_cases h : i < c.po.ways.length
    · have hok : wayOk c i = (tenantP c.po (c.po.ways.getD i w0).fr && tenantP c.po (c.po.ways.getD i w0).to && decide (0 ≤ (c.po.ways.getD i w0).via) && decide ((c.po.ways.getD i w0).via < c.tp.length)) := rfl
      rw [allF_step h, hok] at hr
      have r1 := rowW_at c.po.ways i
      generalize c.po.ways.getD i w0 = x at r1 hr
      obtain ⟨x1, x2, x3⟩ := x
      simp only [wayD] at r1
      simp only [] at hr
      have c1 := tenant_c c.po x1
      have c2 := tenant_c c.po x2
      simp only [policyD] at c1 c2
      generalize tenantP c.po x1 = b1 at c1 hr
      generalize tenantP c.po x2 = b2 at c2 hr
      cases b1
      · simp only [Bool.false_and] at hr
        subst hr
        (repeat (first | refine j0 ?_ | refine q7 rfl ?_ | refine z7 rfl ?_ | refine x6 ?_ | (refine z5 fun K hK => ?_) | (refine j5 (by kernel_rfl) (by kernel_rfl) fun K hK => ?_) | ((first | refine q6 ?_ | refine z6 ?_ | ((first | refine z3 (hK _ ?_) | refine j4 (hK _ _ (z4 (by kernel_rfl)) ?_)); clear hK K)); (first | show AWP _ _ _ _ _ | ((try simp only [j6]); first | show loopQ _ _ _ _ _ _ | show cutQ _ _ _ _ | show AWP _ _ _ _ _))) | ((first | refine z9 rfl rfl rfl ?_ | refine x9 rfl rfl rfl ?_); simp (maxSteps := 2000000) (disch := omega) only [go_sem, seval, policyD, wayD, pairD, spotD, topoD, configD, j10, r1]; (first | refine ⟨_, c1, ?_⟩)) | ((first | refine x7 [] rfl ?_ | refine j7 [] rfl ?_); simp (maxSteps := 2000000) (disch := omega) only [go_sem, seval, policyD, wayD, pairD, spotD, topoD, configD, j10, r1]; (repeat (first | refine ⟨by omega, ?_⟩ | refine ⟨True.intro, ?_⟩)))))
        refine j8 ⟨_, ?_, rfl⟩; rw [Try.results81]; simp (disch := omega) only [ResVars, ResVar, ptrLoc, go_sem, seval, policyD, wayD, pairD, spotD, topoD, configD, j10, r1]
      · cases b2
        · simp only [Bool.true_and, Bool.false_and] at hr
          subst hr
          (repeat (first | refine j0 ?_ | refine q7 rfl ?_ | refine z7 rfl ?_ | refine x6 ?_ | (refine z5 fun K hK => ?_) | (refine j5 (by kernel_rfl) (by kernel_rfl) fun K hK => ?_) | ((first | refine q6 ?_ | refine z6 ?_ | ((first | refine z3 (hK _ ?_) | refine j4 (hK _ _ (z4 (by kernel_rfl)) ?_)); clear hK K)); (first | show AWP _ _ _ _ _ | ((try simp only [j6]); first | show loopQ _ _ _ _ _ _ | show cutQ _ _ _ _ | show AWP _ _ _ _ _))) | ((first | refine z9 rfl rfl rfl ?_ | refine x9 rfl rfl rfl ?_); simp (maxSteps := 2000000) (disch := omega) only [go_sem, seval, policyD, wayD, pairD, spotD, topoD, configD, j10, r1]; (first | refine ⟨_, c1, ?_⟩ | refine ⟨_, c2, ?_⟩)) | ((first | refine x7 [] rfl ?_ | refine j7 [] rfl ?_); simp (maxSteps := 2000000) (disch := omega) only [go_sem, seval, policyD, wayD, pairD, spotD, topoD, configD, j10, r1]; (repeat (first | refine ⟨by omega, ?_⟩ | refine ⟨True.intro, ?_⟩)))))
          refine j8 ⟨_, ?_, rfl⟩; rw [Try.results81]; simp (disch := omega) only [ResVars, ResVar, ptrLoc, go_sem, seval, policyD, wayD, pairD, spotD, topoD, configD, j10, r1]
        · by_cases h3 : 0 ≤ x3
          · by_cases h4 : x3 < c.tp.length
            · rw [decide_eq_true h3, decide_eq_true h4] at hr
              simp only [Bool.true_and] at hr
              (repeat (first | refine j0 ?_ | refine q7 rfl ?_ | refine z7 rfl ?_ | refine x6 ?_ | (refine z5 fun K hK => ?_) | (refine j5 (by kernel_rfl) (by kernel_rfl) fun K hK => ?_) | ((first | refine q6 ?_ | refine z6 ?_ | ((first | refine z3 (hK _ ?_) | refine j4 (hK _ _ (z4 (by kernel_rfl)) ?_)); clear hK K)); (first | show AWP _ _ _ _ _ | ((try simp only [j6]); first | show loopQ _ _ _ _ _ _ | show cutQ _ _ _ _ | show AWP _ _ _ _ _))) | ((first | refine z9 rfl rfl rfl ?_ | refine x9 rfl rfl rfl ?_); simp (maxSteps := 2000000) (disch := omega) only [go_sem, seval, policyD, wayD, pairD, spotD, topoD, configD, j10, r1]; (first | refine ⟨_, c1, ?_⟩ | refine ⟨_, c2, ?_⟩)) | ((first | refine x7 [] rfl ?_ | refine j7 [] rfl ?_); simp (maxSteps := 2000000) (disch := omega) only [go_sem, seval, policyD, wayD, pairD, spotD, topoD, configD, j10, r1]; (repeat (first | refine ⟨by omega, ?_⟩ | refine ⟨True.intro, ?_⟩)))))
              refine ⟨⟨i + 1, by omega, hr⟩, by simp only []; omega, ?_⟩
              refine Weak.list ?_ ?_; (all_goals simp (disch := omega) only [AllF, AllL, q10, z10, j9, exists_eq_left', Option.some.injEq, go_sem, seval, policyD, wayD, pairD, spotD, topoD, configD, j10, r1]); (all_goals (repeat' (with_reducible apply And.intro))); (all_goals try (first | exact q8 rfl | (refine x10 ?_; omega) | (refine q8 ?_; simp; done)))
            · rw [decide_eq_true h3, decide_eq_false h4] at hr
              simp only [Bool.true_and, Bool.false_and] at hr
              subst hr
              (repeat (first | refine j0 ?_ | refine q7 rfl ?_ | refine z7 rfl ?_ | refine x6 ?_ | (refine z5 fun K hK => ?_) | (refine j5 (by kernel_rfl) (by kernel_rfl) fun K hK => ?_) | ((first | refine q6 ?_ | refine z6 ?_ | ((first | refine z3 (hK _ ?_) | refine j4 (hK _ _ (z4 (by kernel_rfl)) ?_)); clear hK K)); (first | show AWP _ _ _ _ _ | ((try simp only [j6]); first | show loopQ _ _ _ _ _ _ | show cutQ _ _ _ _ | show AWP _ _ _ _ _))) | ((first | refine z9 rfl rfl rfl ?_ | refine x9 rfl rfl rfl ?_); simp (maxSteps := 2000000) (disch := omega) only [go_sem, seval, policyD, wayD, pairD, spotD, topoD, configD, j10, r1]; (first | refine ⟨_, c1, ?_⟩ | refine ⟨_, c2, ?_⟩)) | ((first | refine x7 [] rfl ?_ | refine j7 [] rfl ?_); simp (maxSteps := 2000000) (disch := omega) only [go_sem, seval, policyD, wayD, pairD, spotD, topoD, configD, j10, r1]; (repeat (first | refine ⟨by omega, ?_⟩ | refine ⟨True.intro, ?_⟩)))))
              refine j8 ⟨_, ?_, rfl⟩; rw [Try.results81]; simp (disch := omega) only [ResVars, ResVar, ptrLoc, go_sem, seval, policyD, wayD, pairD, spotD, topoD, configD, j10, r1]
          · rw [decide_eq_false h3] at hr
            simp only [Bool.true_and, Bool.false_and] at hr
            subst hr
            (repeat (first | refine j0 ?_ | refine q7 rfl ?_ | refine z7 rfl ?_ | refine x6 ?_ | (refine z5 fun K hK => ?_) | (refine j5 (by kernel_rfl) (by kernel_rfl) fun K hK => ?_) | ((first | refine q6 ?_ | refine z6 ?_ | ((first | refine z3 (hK _ ?_) | refine j4 (hK _ _ (z4 (by kernel_rfl)) ?_)); clear hK K)); (first | show AWP _ _ _ _ _ | ((try simp only [j6]); first | show loopQ _ _ _ _ _ _ | show cutQ _ _ _ _ | show AWP _ _ _ _ _))) | ((first | refine z9 rfl rfl rfl ?_ | refine x9 rfl rfl rfl ?_); simp (maxSteps := 2000000) (disch := omega) only [go_sem, seval, policyD, wayD, pairD, spotD, topoD, configD, j10, r1]; (first | refine ⟨_, c1, ?_⟩ | refine ⟨_, c2, ?_⟩)) | ((first | refine x7 [] rfl ?_ | refine j7 [] rfl ?_); simp (maxSteps := 2000000) (disch := omega) only [go_sem, seval, policyD, wayD, pairD, spotD, topoD, configD, j10, r1]; (repeat (first | refine ⟨by omega, ?_⟩ | refine ⟨True.intro, ?_⟩)))))
            refine j8 ⟨_, ?_, rfl⟩; rw [Try.results81]; simp (disch := omega) only [ResVars, ResVar, ptrLoc, go_sem, seval, policyD, wayD, pairD, spotD, topoD, configD, j10, r1]
    · rw [allF_done (show c.po.ways.length ≤ i by omega)] at hr
      subst hr
      (repeat (first | refine j0 ?_ | refine q7 rfl ?_ | refine z7 rfl ?_ | refine x6 ?_ | (refine z5 fun K hK => ?_) | (refine j5 (by kernel_rfl) (by kernel_rfl) fun K hK => ?_) | ((first | refine q6 ?_ | refine z6 ?_ | ((first | refine z3 (hK _ ?_) | refine j4 (hK _ _ (z4 (by kernel_rfl)) ?_)); clear hK K)); (first | show AWP _ _ _ _ _ | ((try simp only [j6]); first | show loopQ _ _ _ _ _ _ | show cutQ _ _ _ _ | show AWP _ _ _ _ _))) | ((first | refine x7 [] rfl ?_ | refine j7 [] rfl ?_); simp (maxSteps := 2000000) (disch := omega) only [go_sem, seval, policyD, wayD, pairD, spotD, topoD, configD, j10]; (repeat (first | refine ⟨by omega, ?_⟩ | refine ⟨True.intro, ?_⟩)))))
      refine j8 ⟨_, ?_, rfl⟩; rw [Try.results81]; simp (disch := omega) only [ResVars, ResVar, ptrLoc, go_sem, seval, policyD, wayD, pairD, spotD, topoD, configD, j10]
end Go.Proofs.Ytbamjcnhmmgnlaa
set_option linter.unusedSimpArgs false
set_option linter.unusedVariables false
namespace Go.Proofs.Ytbamjcnhmmgnlaa
open Go.Proofs.Ytbamjcnhmmgnlaa.AL
def spotSh : Sh := .pair (.int .i64) (.pair (.int .i64) .unit)
def pairSh : Sh := .pair (.int .i64) (.pair (.int .i64) .unit)
def waySh : Sh := .pair (.int .i64) (.pair (.int .i64) (.pair (.int .i64) .unit))
def topoSh : Sh := .pair (.slice (.slice portSh)) .unit
def policySh : Sh := .pair (.int .i64) (.pair (.slice pairSh) (.pair (.slice waySh) .unit))
def tabsSh : Sh := .slice (.slice ruleSh)
def configSh : Sh := .pair topoSh (.pair policySh (.pair (.slice tabsSh) .unit))
theorem is_spot {N : Nat} {ds : List Dat} (h : Is N spotSh ds) : ∃ s : Spot, ds = spotD s ∧ in64 s.sw ∧ in64 s.po := by
  obtain ⟨_, _, rfl, ⟨a, rfl, wa⟩, _, _, rfl, ⟨b, rfl, wb⟩, rfl⟩ := h
  exact ⟨⟨a, b⟩, rfl, wf_i64 wa, wf_i64 wb⟩
theorem is_pair {N : Nat} {ds : List Dat} (h : Is N pairSh ds) : ∃ p : Int × Int, ds = pairD p ∧ in64 p.1 ∧ in64 p.2 := by
  obtain ⟨_, _, rfl, ⟨a, rfl, wa⟩, _, _, rfl, ⟨b, rfl, wb⟩, rfl⟩ := h
  exact ⟨⟨a, b⟩, rfl, wf_i64 wa, wf_i64 wb⟩
theorem is_way {N : Nat} {ds : List Dat} (h : Is N waySh ds) : ∃ w : Way, ds = wayD w ∧ in64 w.fr := by
  obtain ⟨_, _, rfl, ⟨a, rfl, wa⟩, _, _, rfl, ⟨b, rfl, wb⟩, _, _, rfl, ⟨c, rfl, wc⟩, rfl⟩ := h
  exact ⟨⟨a, b, c⟩, rfl, wf_i64 wa⟩
theorem is_portss {N : Nat} {ds : List Dat} (h : Is N (.slice (.slice portSh)) ds) : ∃ l : List (List Port), ds = [.sl 1 l.length (rowPP l)] ∧ l.length ≤ N ∧ ∀ r ∈ l, r.length ≤ N :=
  is_list (fun r : List Port => [Dat.sl 5 r.length (rowP r)]) [] (.slice portSh) rfl (fun ds hd => is_ports hd) h
theorem is_tabs {N : Nat} {ds : List Dat} (h : Is N tabsSh ds) : ∃ l : List (List Rule), ds = [.sl 1 l.length (rowRR l)] ∧ l.length ≤ N ∧ ∀ r ∈ l, r.length ≤ N :=
  is_list (fun r : List Rule => [Dat.sl 12 r.length (rowR r)]) [] (.slice ruleSh) (by
    have : rowR [] = fun _ => zeroSh ruleSh := by
      funext i
      show ruleD r0 = _
      simp only [ruleD, r0, hi_zero, lo_zero]; rfl
    show [Dat.sl 12 0 (rowR [])] = _
    rw [this]; rfl) (fun ds hd => is_rules hd) h
theorem is_tabss {N : Nat} {ds : List Dat} (h : Is N (.slice tabsSh) ds) : ∃ l : List (List (List Rule)), ds = [.sl 1 l.length (rowTT l)] ∧ l.length ≤ N ∧ ∀ t ∈ l, t.length ≤ N ∧ ∀ r ∈ t, r.length ≤ N :=
  is_list (Q := fun t : List (List Rule) => t.length ≤ N ∧ ∀ r ∈ t, r.length ≤ N) (fun t : List (List Rule) => [Dat.sl 1 t.length (rowRR t)]) [] tabsSh (by
    have h0 : rowR [] = fun _ => zeroSh ruleSh := by
      funext i
      show ruleD r0 = _
      simp only [ruleD, r0, hi_zero, lo_zero]; rfl
    have : rowRR [] = fun _ => zeroSh (.slice ruleSh) := by
      funext i
      show [Dat.sl 12 0 (rowR [])] = _
      rw [h0]; rfl
    show [Dat.sl 1 0 (rowRR [])] = _
    rw [this]; rfl) (fun ds hd => is_tabs hd) h
theorem is_pairs {N : Nat} {ds : List Dat} (h : Is N (.slice pairSh) ds) : ∃ l : List (Int × Int), ds = [.sl 2 l.length (rowA l)] ∧ l.length ≤ N := by
  obtain ⟨l, h1, h2, _⟩ := is_list (Q := fun _ => True) pairD (0, 0) pairSh rfl (fun ds hd => by obtain ⟨p, h1, _⟩ := is_pair hd; exact ⟨p, h1, trivial⟩) h
  exact ⟨l, h1, h2⟩
theorem is_ways {N : Nat} {ds : List Dat} (h : Is N (.slice waySh) ds) : ∃ l : List Way, ds = [.sl 3 l.length (rowW l)] ∧ l.length ≤ N := by
  obtain ⟨l, h1, h2, _⟩ := is_list (Q := fun _ => True) wayD w0 waySh rfl (fun ds hd => by obtain ⟨p, h1, _⟩ := is_way hd; exact ⟨p, h1, trivial⟩) h
  exact ⟨l, h1, h2⟩
theorem is_policy {ds : List Dat} (h : Is 1048576 policySh ds) : ∃ p : Policy, ds = policyD p ∧ p.small ∧ in64 p.tn := by
  obtain ⟨_, _, rfl, ⟨a, rfl, wa⟩, _, _, rfl, hb, _, _, rfl, hc, rfl⟩ := h
  obtain ⟨ps, rfl, h1⟩ := is_pairs hb
  obtain ⟨ws, rfl, h2⟩ := is_ways hc
  exact ⟨⟨a, ps, ws⟩, rfl, ⟨by simp only []; omega, by simp only []; omega⟩, wf_i64 wa⟩
theorem is_config {ds : List Dat} (h : Is 1048576 configSh ds) : ∃ c : Config, ds = configD c ∧ c.small := by
  obtain ⟨_, _, rfl, ⟨_, _, rfl, ha, rfl⟩, _, _, rfl, hb, _, _, rfl, hc, rfl⟩ := h
  obtain ⟨tp, rfl, t1, t2⟩ := is_portss ha
  obtain ⟨po, rfl, p1, _⟩ := is_policy hb
  obtain ⟨tb, rfl, b1, b2⟩ := is_tabss hc
  exact ⟨⟨tp, po, tb⟩, rfl, ⟨⟨t1, t2⟩, p1, b1, b2⟩⟩
end Go.Proofs.Ytbamjcnhmmgnlaa
set_option linter.unusedSimpArgs false
set_option linter.unusedVariables false
namespace Go.Proofs.Ytbamjcnhmmgnlaa
open Go.Proofs.Ytbamjcnhmmgnlaa.AL
theorem is_byte {N : Nat} {ds : List Dat} (h : Is N (.int .u8) ds) : ∃ n : Nat, ds = [.v (.int .u8 (n : Int))] ∧ n < 256 := by
  obtain ⟨n, rfl, hw⟩ := h
  have : 0 ≤ n ∧ n < 256 := by
    simp [Lit.wf, IntKind.min, IntKind.max, IntKind.signed, IntKind.bits] at hw
    omega
  exact ⟨n.toNat, by rw [Int.toNat_of_nonneg this.1], by omega⟩
end Go.Proofs.Ytbamjcnhmmgnlaa
set_option linter.unusedSimpArgs false
set_option linter.unusedVariables false
namespace Go.Proofs.Ytbamjcnhmmgnlaa
open Go.Proofs.Ytbamjcnhmmgnlaa.AL
section
variable {α : Type} {key : α → Int}
def seg (x : Nat → α) (a b : Nat) : List α := (List.range' a (b - a)).map x
theorem mem_seg {x : Nat → α} {a b : Nat} {e : α} : e ∈ seg x a b ↔ ∃ k, a ≤ k ∧ k < b ∧ x k = e := by
  unfold seg
  rw [List.mem_map]
  constructor
  · rintro ⟨k, hk, h⟩
    rw [List.mem_range'_1] at hk
    exact ⟨k, hk.1, by omega, h⟩
  · rintro ⟨k, h1, h2, h⟩
    exact ⟨k, List.mem_range'_1.2 ⟨h1, by omega⟩, h⟩
theorem seg_congr {x y : Nat → α} {a b : Nat} (h : ∀ k, a ≤ k → k < b → x k = y k) : seg x a b = seg y a b := by
  unfold seg
  refine List.map_congr_left fun k hk => ?_
  rw [List.mem_range'_1] at hk
  exact h k hk.1 (by omega)
theorem seg_split (x : Nat → α) {a m b : Nat} (h1 : a ≤ m) (h2 : m ≤ b) : seg x a b = seg x a m ++ seg x m b := by
  unfold seg
  rw [← List.map_append]
  congr 1
  have := List.range'_append (s := a) (m := m - a) (n := b - m) (step := 1)
  rw [show a + 1 * (m - a) = m from by omega, show m - a + (b - m) = b - a from by omega] at this
  exact this.symm
theorem seg_length (x : Nat → α) (a b : Nat) : (seg x a b).length = b - a := by simp [seg]
theorem seg_get (x : Nat → α) {a b k : Nat} (h1 : a ≤ k) (h2 : k < b) (z : α) : (seg x a b).getD (k - a) z = x k := by
  unfold seg
  rw [List.getD_eq_getElem?_getD, List.getElem?_map, List.getElem?_range' (by omega)]
  simp; congr 1; omega
theorem seg_shift {x y : Nat → α} {a b c d : Nat} (hl : b - a = d - c) (h : ∀ k, k < b - a → x (a + k) = y (c + k)) : seg x a b = seg y c d := by
  apply List.ext_getElem
  · rw [seg_length, seg_length, hl]
  · intro k h1 h2
    rw [seg_length] at h1
    simp only [seg, List.getElem_map, List.getElem_range', Nat.one_mul]
    exact h k h1
structure SE (key : α → Int) (a b : Nat) (x y : Nat → α) : Prop where
  out : ∀ k, ¬ (a ≤ k ∧ k < b) → y k = x k
  fil : ∀ p, (seg y a b).filter (fun e => key e == p) = (seg x a b).filter (fun e => key e == p)
theorem SE.refl (a b : Nat) (x : Nat → α) : SE key a b x x := ⟨fun _ _ => rfl, fun _ => rfl⟩
theorem SE.trans {a b : Nat} {x y z : Nat → α} (h : SE key a b x y) (k : SE key a b y z) : SE key a b x z :=
  ⟨fun i hi => (k.out i hi).trans (h.out i hi), fun p => (k.fil p).trans (h.fil p)⟩
theorem SE.widen {a b a' b' : Nat} {x y : Nat → α} (h : SE key a b x y) (h1 : a' ≤ a) (hab : a ≤ b) (h2 : b ≤ b') : SE key a' b' x y := by
  refine ⟨fun k hk => h.out k (by omega), fun p => ?_⟩
  rw [seg_split y (show a' ≤ b by omega) h2, seg_split y h1 hab, seg_split x (show a' ≤ b by omega) h2, seg_split x h1 hab]
  simp only [List.filter_append]
  rw [h.fil p, seg_congr (x := y) (y := x) (a := a') (b := a) (fun k _ hk => h.out k (by omega)), seg_congr (x := y) (y := x) (a := b) (b := b') (fun k hk _ => h.out k (by omega))]
theorem SE.mem {a b : Nat} {x y : Nat → α} (h : SE key a b x y) {k : Nat} (h1 : a ≤ k) (h2 : k < b) : ∃ k', a ≤ k' ∧ k' < b ∧ y k = x k' := by
  have : y k ∈ (seg y a b).filter (fun e => key e == key (y k)) := List.mem_filter.2 ⟨mem_seg.2 ⟨k, h1, h2, rfl⟩, by simp⟩
  rw [h.fil] at this
  obtain ⟨k', a1, a2, a3⟩ := mem_seg.1 (List.mem_filter.1 this).1
  exact ⟨k', a1, a2, a3.symm⟩
def swap2 (x : Nat → α) (i : Nat) : Nat → α := fun k => if k = i then x (i + 1) else if k = i + 1 then x i else x k
theorem SE.swap {x : Nat → α} {i : Nat} (h : key (x i) ≠ key (x (i + 1))) : SE key i (i + 2) x (swap2 x i) := by
  refine ⟨fun k hk => ?_, fun p => ?_⟩
  · unfold swap2; rw [if_neg (by omega), if_neg (by omega)]
  · have e1 : seg x i (i + 2) = [x i, x (i + 1)] := by
      unfold seg; rw [show i + 2 - i = 2 from by omega]; rfl
    have e2 : seg (swap2 x i) i (i + 2) = [x (i + 1), x i] := by
      unfold seg; rw [show i + 2 - i = 2 from by omega]
      simp [List.range'_succ, swap2]
    rw [e1, e2]
    simp only [List.filter_cons, List.filter_nil]
    by_cases h1 : key (x i) = p
    · have : ¬ key (x (i + 1)) = p := fun e => h (h1.trans e.symm)
      simp [h1, this]
    · simp [h1]
def rot (x : Nat → α) (a m b : Nat) : Nat → α := fun k => if a ≤ k ∧ k < a + (b - m) then x (k - a + m) else if a + (b - m) ≤ k ∧ k < b then x (k - (b - m)) else x k
theorem SE.rot {x : Nat → α} {a m b : Nat} (h1 : a ≤ m) (h2 : m ≤ b) (h : ∀ i j, a ≤ i → i < m → m ≤ j → j < b → key (x i) ≠ key (x j)) : SE key a b x (rot x a m b) := by
  refine ⟨fun k hk => ?_, fun p => ?_⟩
  · unfold Go.Proofs.Ytbamjcnhmmgnlaa.rot; rw [if_neg (by omega), if_neg (by omega)]
  · have e1 : seg (Go.Proofs.Ytbamjcnhmmgnlaa.rot x a m b) a b = seg x m b ++ seg x a m := by
      rw [seg_split _ (show a ≤ a + (b - m) by omega) (show a + (b - m) ≤ b by omega)]
      congr 1
      · refine seg_shift (by omega) fun k hk => ?_
        unfold Go.Proofs.Ytbamjcnhmmgnlaa.rot; rw [if_pos (by omega)]; congr 1; omega
      · refine seg_shift (by omega) fun k hk => ?_
        unfold Go.Proofs.Ytbamjcnhmmgnlaa.rot; rw [if_neg (by omega), if_pos (by omega)]; congr 1; omega
    rw [e1, seg_split x h1 h2, List.filter_append, List.filter_append]
    by_cases hp : ∃ i, a ≤ i ∧ i < m ∧ key (x i) = p
    · obtain ⟨i, i1, i2, i3⟩ := hp
      have : (seg x m b).filter (fun e => key e == p) = [] := by
        rw [List.filter_eq_nil_iff]
        intro e he hk
        obtain ⟨j, j1, j2, rfl⟩ := mem_seg.1 he
        exact h i j i1 i2 j1 j2 (i3.trans (beq_iff_eq.1 hk).symm)
      rw [this]; simp
    · have : (seg x a m).filter (fun e => key e == p) = [] := by
        rw [List.filter_eq_nil_iff]
        intro e he hk
        obtain ⟨j, j1, j2, rfl⟩ := mem_seg.1 he
        exact hp ⟨j, j1, j2, beq_iff_eq.1 hk⟩
      rw [this]; simp
def swapR (x : Nat → α) (a b n : Nat) : Nat → α := fun k => if a ≤ k ∧ k < a + n then x (k - a + b) else if b ≤ k ∧ k < b + n then x (k - b + a) else x k
theorem swapR_zero (x : Nat → α) (a b : Nat) : swapR x a b 0 = x := by
  funext k; unfold swapR; rw [if_neg (by omega), if_neg (by omega)]
theorem swapR_at (x : Nat → α) {a b i : Nat} (h : a + i < b) : swapR x a b i (b + i) = x (b + i) ∧ swapR x a b i (a + i) = x (a + i) := by
  unfold swapR
  constructor
  · rw [if_neg (by omega), if_neg (by omega)]
  · rw [if_neg (by omega), if_neg (by omega)]
theorem swapR_succ (x : Nat → α) {a b i k : Nat} (h : a + i < b) : (if k = b + i then x (a + i) else if k = a + i then x (b + i) else swapR x a b i k) = swapR x a b (i + 1) k := by
  unfold swapR
  by_cases h1 : k = b + i
  · rw [if_pos h1, if_neg (by omega), if_pos (by omega)]; congr 1; omega
  · rw [if_neg h1]
    by_cases h2 : k = a + i
    · rw [if_pos h2, if_pos (by omega)]; congr 1; omega
    · rw [if_neg h2]
      by_cases h3 : a ≤ k ∧ k < a + i
      · rw [if_pos h3, if_pos (by omega)]
      · rw [if_neg h3, if_neg (show ¬ (a ≤ k ∧ k < a + (i + 1)) by omega)]
        by_cases h4 : b ≤ k ∧ k < b + i
        · rw [if_pos h4, if_pos (by omega)]
        · rw [if_neg h4, if_neg (by omega)]
theorem rot_left (y : Nat → α) {m i j : Nat} (hj : 0 < j) (hij : j < i) (hm : i ≤ m) : rot (swapR y (m - i) m j) (m - (i - j)) m (m + j) = rot y (m - i) m (m + j) := by
  funext k
  unfold rot swapR
  by_cases c1 : m - i ≤ k ∧ k < m - i + j
  · rw [if_neg (by omega), if_neg (by omega), if_pos (by omega), if_pos (by omega)]
  · by_cases c2 : m - (i - j) ≤ k ∧ k < m - (i - j) + j
    · rw [if_pos (by omega), if_neg (by omega), if_pos (by omega), if_neg (by omega), if_pos (by omega)]; congr 1; omega
    · by_cases c3 : m - (i - j) + j ≤ k ∧ k < m + j
      · rw [if_neg (by omega), if_pos (by omega), if_neg (by omega), if_neg (by omega), if_neg (by omega), if_pos (by omega)]
      · rw [if_neg (by omega), if_neg (by omega), if_neg (by omega), if_neg (by omega), if_neg (by omega), if_neg (by omega)]
theorem rot_right (y : Nat → α) {m i j : Nat} (hi : 0 < i) (hij : i < j) (hm : i ≤ m) : rot (swapR y (m - i) (m + j - i) i) (m - i) m (m + (j - i)) = rot y (m - i) m (m + j) := by
  funext k
  unfold rot swapR
  by_cases c1 : m - i ≤ k ∧ k < m - i + (j - i)
  · rw [if_pos (by omega), if_neg (by omega), if_neg (by omega), if_pos (by omega)]
  · by_cases c2 : m - i + (j - i) ≤ k ∧ k < m + (j - i)
    · rw [if_neg (by omega), if_pos (by omega), if_pos (by omega), if_pos (by omega)]; congr 1; omega
    · by_cases c3 : m + (j - i) ≤ k ∧ k < m + j
      · rw [if_neg (by omega), if_neg (by omega), if_neg (by omega), if_pos (by omega), if_neg (by omega), if_pos (by omega)]; congr 1; omega
      · rw [if_neg (by omega), if_neg (by omega), if_neg (by omega), if_neg (by omega), if_neg (by omega), if_neg (by omega)]
theorem rot_same (y : Nat → α) {m i : Nat} (hm : i ≤ m) : swapR y (m - i) m i = rot y (m - i) m (m + i) := by
  funext k
  unfold rot swapR
  by_cases c1 : m - i ≤ k ∧ k < m - i + i
  · rw [if_pos (by omega), if_pos (by omega)]
  · by_cases c2 : m ≤ k ∧ k < m + i
    · rw [if_neg (by omega), if_pos (by omega), if_neg (by omega), if_pos (by omega)]; congr 1; omega
    · rw [if_neg (by omega), if_neg (by omega), if_neg (by omega), if_neg (by omega)]
theorem rot_none (y : Nat → α) {a m b : Nat} (h1 : a ≤ m) (h2 : m ≤ b) (h : a = m ∨ m = b) : rot y a m b = y := by
  funext k
  unfold rot
  by_cases c1 : a ≤ k ∧ k < a + (b - m)
  · rw [if_pos c1]; congr 1; omega
  · rw [if_neg c1]
    by_cases c2 : a + (b - m) ≤ k ∧ k < b
    · rw [if_pos c2]; congr 1; omega
    · rw [if_neg c2]
def Srt (key : α → Int) (a b : Nat) (x : Nat → α) : Prop := ∀ i j, a ≤ i → i < j → j < b → key (x i) ≤ key (x j)
theorem Srt.le {a b : Nat} {x : Nat → α} (h : Srt key a b x) {i j : Nat} (h1 : a ≤ i) (h2 : i ≤ j) (h3 : j < b) : key (x i) ≤ key (x j) := by
  rcases Nat.lt_or_eq_of_le h2 with hlt | rfl
  · exact h i j h1 hlt h3
  · exact Int.le_refl _
theorem filter_unique : ∀ {l l' : List α}, l.Pairwise (fun a b => key a ≤ key b) → l'.Pairwise (fun a b => key a ≤ key b) → (∀ p, l.filter (fun e => key e == p) = l'.filter (fun e => key e == p)) → l = l'
  | [], [], _, _, _ => rfl
  | [], e :: t, _, _, h => by have := h (key e); simp at this
  | e :: t, [], _, _, h => by have := h (key e); simp at this
  | e :: t, e' :: t', h1, h2, h => by
    have hle : ∀ {e e' : α} {t t' : List α}, (e' :: t').Pairwise (fun a b => key a ≤ key b) → (∀ p, (e :: t).filter (fun e => key e == p) = (e' :: t').filter (fun e => key e == p)) → key e' ≤ key e := by
      intro e e' t t' h2 h
      have hm : e ∈ (e :: t).filter (fun x => key x == key e) := List.mem_filter.2 ⟨by simp, by simp⟩
      rw [h] at hm
      rcases List.mem_cons.1 (List.mem_filter.1 hm).1 with rfl | hm
      · exact Int.le_refl _
      · exact (List.pairwise_cons.1 h2).1 e hm
    have hk : key e = key e' := Int.le_antisymm (hle h1 fun p => (h p).symm) (hle h2 h)
    have he : e = e' := by
      have := h (key e)
      rw [List.filter_cons, List.filter_cons, if_pos (by simp), if_pos (by simp [hk])] at this
      exact (List.cons.inj this).1
    subst he
    congr 1
    refine filter_unique (List.pairwise_cons.1 h1).2 (List.pairwise_cons.1 h2).2 fun p => ?_
    have := h p
    rw [List.filter_cons, List.filter_cons] at this
    split at this
    · exact (List.cons.inj this).2
    · exact this
def ins (key : α → Int) (e : α) : List α → List α
  | [] => [e]
  | y :: t => if key e ≤ key y then e :: y :: t else y :: ins key e t
def isort (key : α → Int) : List α → List α
  | [] => []
  | e :: t => ins key e (isort key t)
theorem ins_filter (e : α) (p : Int) : ∀ l : List α, (ins key e l).filter (fun x => key x == p) = (e :: l).filter (fun x => key x == p)
  | [] => rfl
  | y :: t => by
    unfold ins
    split
    · rfl
    · rename_i h
      have ih := ins_filter e p t
      rw [List.filter_cons] at ih
      rw [List.filter_cons, ih, List.filter_cons, List.filter_cons]
      by_cases h1 : key y = p
      · have : ¬ key e = p := by omega
        simp [h1, this]
      · simp [h1]
theorem ins_mem {e x : α} : ∀ {l : List α}, x ∈ ins key e l → x = e ∨ x ∈ l
  | [], h => by simp [ins] at h; exact .inl h
  | y :: t, h => by
    unfold ins at h
    split at h
    · simpa using h
    · rcases List.mem_cons.1 h with rfl | h
      · exact .inr (by simp)
      · rcases ins_mem h with h | h
        · exact .inl h
        · exact .inr (by simp [h])
theorem ins_sorted (e : α) : ∀ {l : List α}, l.Pairwise (fun a b => key a ≤ key b) → (ins key e l).Pairwise (fun a b => key a ≤ key b)
  | [], _ => by simp [ins]
  | y :: t, h => by
    unfold ins
    have ⟨h1, h2⟩ := List.pairwise_cons.1 h
    split
    · rename_i hle
      refine List.pairwise_cons.2 ⟨fun x hx => ?_, h⟩
      rcases List.mem_cons.1 hx with rfl | hx
      · exact hle
      · exact Int.le_trans hle (h1 x hx)
    · rename_i hlt
      refine List.pairwise_cons.2 ⟨fun x hx => ?_, ins_sorted e h2⟩
      rcases ins_mem hx with rfl | hx
      · omega
      · exact h1 x hx
theorem isort_filter (p : Int) : ∀ l : List α, (isort key l).filter (fun x => key x == p) = l.filter (fun x => key x == p)
  | [] => rfl
  | e :: t => by
    show (ins key e (isort key t)).filter _ = _
    rw [ins_filter, List.filter_cons, isort_filter p t, List.filter_cons]
theorem isort_sorted : ∀ l : List α, (isort key l).Pairwise (fun a b => key a ≤ key b)
  | [] => List.Pairwise.nil
  | e :: t => ins_sorted e (isort_sorted t)
theorem ins_length (e : α) : ∀ l : List α, (ins key e l).length = l.length + 1
  | [] => rfl
  | y :: t => by
    unfold ins
    split
    · rfl
    · simp [ins_length e t]
theorem isort_length : ∀ l : List α, (isort key l).length = l.length
  | [] => rfl
  | e :: t => by show (ins key e (isort key t)).length = _; rw [ins_length, isort_length t]; rfl
def stab (key : α → Int) (a b : Nat) (x : Nat → α) : Nat → α := fun k => if a ≤ k ∧ k < b then (isort key (seg x a b)).getD (k - a) (x k) else x k
theorem seg_pairwise {a b : Nat} {x : Nat → α} (h : Srt key a b x) : (seg x a b).Pairwise (fun a b => key a ≤ key b) := by
  unfold seg
  rw [List.pairwise_map]
  refine List.Pairwise.imp_of_mem ?_ (List.pairwise_lt_range' (s := a) (n := b - a) (step := 1))
  intro i j hi hj hlt
  rw [List.mem_range'_1] at hi hj
  exact h i j hi.1 hlt (by omega)
theorem stab_eq {a b : Nat} {x y : Nat → α} (h : SE key a b x y) (hs : Srt key a b y) (k : Nat) : y k = stab key a b x k := by
  unfold stab
  split
  · rename_i hk
    have e : seg y a b = isort key (seg x a b) := filter_unique (seg_pairwise hs) (isort_sorted _) fun p => by rw [h.fil, isort_filter]
    rw [← e, seg_get y hk.1 hk.2]
  · rename_i hk
    exact h.out k hk
theorem stab_seg (a b : Nat) (x : Nat → α) : seg (stab key a b x) a b = isort key (seg x a b) := by
  apply List.ext_getElem
  · rw [seg_length, isort_length, seg_length]
  · intro k h1 h2
    rw [seg_length] at h1
    simp only [seg, List.getElem_map, List.getElem_range', Nat.one_mul]
    unfold stab
    rw [if_pos (by omega), show a + k - a = k from by omega, List.getD_eq_getElem?_getD, List.getElem?_eq_getElem h2]
    rfl
theorem stab_se (a b : Nat) (x : Nat → α) : SE key a b x (stab key a b x) :=
  ⟨fun k hk => by unfold stab; rw [if_neg hk], fun p => by rw [stab_seg, isort_filter]⟩
theorem stab_srt (a b : Nat) (x : Nat → α) : Srt key a b (stab key a b x) := by
  intro i j h1 h2 h3
  have hp := isort_sorted (key := key) (seg x a b)
  rw [← stab_seg] at hp
  have := List.pairwise_iff_getElem.1 hp (i - a) (j - a) (by rw [seg_length]; omega) (by rw [seg_length]; omega) (by omega)
  have g : ∀ k (hk : k - a < (seg (stab key a b x) a b).length), a ≤ k → k < b → (seg (stab key a b x) a b)[k - a] = stab key a b x k := by
    intro k hk k1 k2
    have := seg_get (stab key a b x) k1 k2 (stab key a b x k)
    rw [List.getD_eq_getElem?_getD, List.getElem?_eq_getElem hk] at this
    exact this
  rw [g i _ h1 (by omega), g j _ (by omega) h3] at this
  exact this
structure InsAt (key : α → Int) (a i j : Nat) (y : Nat → α) : Prop where
  left : ∀ p q, a ≤ p → p < q → q ≤ i → p ≠ j → q ≠ j → key (y p) ≤ key (y q)
  right : ∀ q, j < q → q ≤ i → key (y j) < key (y q)
theorem InsAt.start {a i : Nat} {y : Nat → α} (h : Srt key a i y) : InsAt key a i i y :=
  ⟨fun p q h1 h2 h3 _ h5 => h p q h1 h2 (by omega), fun q h1 h2 => by omega⟩
theorem InsAt.step {a i j : Nat} {y : Nat → α} (h : InsAt key a i (j + 1) y) (ha : a ≤ j) (hi : j + 1 ≤ i) (hc : key (y (j + 1)) < key (y j)) : InsAt key a i j (swap2 y j) := by
  have g : ∀ k, swap2 y j k = if k = j then y (j + 1) else if k = j + 1 then y j else y k := fun _ => rfl
  refine ⟨fun p q h1 h2 h3 h4 h5 => ?_, fun q h1 h2 => ?_⟩
  · rw [g p, g q, if_neg h4, if_neg h5]
    by_cases hp : p = j + 1
    · rw [if_pos hp, if_neg (by omega)]
      exact h.left j q (by omega) (by omega) h3 (by omega) (by omega)
    · rw [if_neg hp]
      by_cases hq : q = j + 1
      · rw [if_pos hq]
        exact h.left p j h1 (by omega) (by omega) (by omega) (by omega)
      · rw [if_neg hq]
        exact h.left p q h1 h2 h3 hp hq
  · rw [g j, g q, if_pos rfl, if_neg (by omega)]
    by_cases hq : q = j + 1
    · rw [if_pos hq]; exact hc
    · rw [if_neg hq]; exact h.right q (by omega) h2
theorem InsAt.done {a i j : Nat} {y : Nat → α} (h : InsAt key a i j y) (hj : j ≤ i) (hc : j ≤ a ∨ key (y (j - 1)) ≤ key (y j)) : Srt key a (i + 1) y := by
  intro p q h1 h2 h3
  by_cases hp : p = j
  · subst hp; exact Int.le_of_lt (h.right q h2 (by omega))
  · by_cases hq : q = j
    · subst hq
      rcases hc with hc | hc
      · omega
      · by_cases hpj : p = q - 1
        · rw [hpj]; exact hc
        · exact Int.le_trans (h.left p (q - 1) h1 (by omega) (by omega) (by omega) (by omega)) hc
    · exact h.left p q h1 h2 (by omega) hp hq
def BS (key : α → Int) (c lo hi : Nat) (x : Nat → α) : Prop := ∀ i j, lo ≤ i → i < j → j < hi → i / c = j / c → key (x i) ≤ key (x j)
theorem div_same {a c i j : Nat} (hc : 0 < c) (h : a % c = 0) (i1 : a ≤ i) (i2 : i < a + c) (j1 : a ≤ j) (j2 : j < a + c) : i / c = j / c := by
  obtain ⟨q, rfl⟩ := Nat.dvd_of_mod_eq_zero h
  have key : ∀ k, c * q ≤ k → k < c * q + c → k / c = q := by
    intro k k1 k2
    refine Nat.div_eq_of_lt_le ?_ ?_
    · rw [Nat.mul_comm]; exact k1
    · rw [Nat.add_mul, Nat.one_mul, Nat.mul_comm]; exact k2
  rw [key i i1 i2, key j j1 j2]
theorem div_apart {a c i j : Nat} (hc : 0 < c) (h : a % c = 0) (h1 : i < a) (h2 : a ≤ j) : i / c ≠ j / c := by
  obtain ⟨q, rfl⟩ := Nat.dvd_of_mod_eq_zero h
  have e1 : i / c < q := (Nat.div_lt_iff_lt_mul hc).2 (by rw [Nat.mul_comm]; exact h1)
  have e2 : q ≤ j / c := (Nat.le_div_iff_mul_le hc).2 (by rw [Nat.mul_comm]; exact h2)
  omega
theorem BS.srt {a b c lo hi : Nat} {x : Nat → α} (h : BS key c lo hi x) (hc : 0 < c) (ha : a % c = 0) (h1 : lo ≤ a) (h2 : b ≤ hi) (h3 : b ≤ a + c) : Srt key a b x :=
  fun i j i1 i2 i3 => h i j (by omega) i2 (by omega) (div_same hc ha i1 (by omega) (by omega) (by omega))
theorem BS.more {a b c : Nat} {x y : Nat → α} (h : BS key c 0 a x) (hc : 0 < c) (ha : a % c = 0) (hb : b ≤ a + c) (hy : ∀ k, k < a → y k = x k) (hs : Srt key a b y) : BS key c 0 b y := by
  intro i j _ h2 h3 h4
  by_cases hi : a ≤ i
  · exact hs i j hi h2 h3
  · by_cases hj : j < a
    · rw [hy i (by omega), hy j hj]; exact h i j (by omega) h2 hj h4
    · exact absurd h4 (div_apart hc ha (by omega) (by omega))
theorem BS.drop {c lo lo' hi hi' : Nat} {x y : Nat → α} (h : BS key c lo hi x) (h1 : lo ≤ lo') (h2 : hi' ≤ hi) (hy : ∀ k, lo' ≤ k → k < hi' → y k = x k) : BS key c lo' hi' y := by
  intro i j i1 i2 i3 i4
  rw [hy i i1 (by omega), hy j (by omega) i3]
  exact h i j (by omega) i2 (by omega) i4
theorem BS.end {n c : Nat} {x : Nat → α} (h : BS key c 0 n x) (hc : n ≤ c) : Srt key 0 n x := by
  intro i j _ h2 h3
  refine h i j (Nat.zero_le _) h2 h3 ?_
  rw [Nat.div_eq_of_lt (by omega), Nat.div_eq_of_lt (by omega)]
theorem merge_parts {a m b mid start n : Nat} {x : Nat → α} (ham : a < m) (hmb : m < b) (hmid : mid = (a + b) / 2) (hn : n = mid + m) (sl : Srt key a m x) (sr : Srt key m b x) (s1 : (if m > mid then n - b else a) ≤ start) (s2 : start ≤ (if m > mid then mid else m))
    (lo : ∀ c, (if m > mid then n - b else a) ≤ c → c < start → key (x c) ≤ key (x (n - 1 - c))) (hi : ∀ c, start ≤ c → c < (if m > mid then mid else m) → key (x (n - 1 - c)) < key (x c)) :
    a ≤ start ∧ start ≤ m ∧ m ≤ n - start ∧ n - start ≤ b ∧ start ≤ mid ∧ mid ≤ n - start ∧ SE key start (n - start) x (rot x start m (n - start)) ∧
      Srt key a start (rot x start m (n - start)) ∧ Srt key start mid (rot x start m (n - start)) ∧ Srt key mid (n - start) (rot x start m (n - start)) ∧ Srt key (n - start) b (rot x start m (n - start)) ∧
      (∀ p q, a ≤ p → p < mid → mid ≤ q → q < b → key (rot x start m (n - start) p) ≤ key (rot x start m (n - start) q)) := by
  have f1 : a ≤ start ∧ start ≤ m ∧ m ≤ n - start ∧ n - start ≤ b ∧ start ≤ mid ∧ mid ≤ n - start ∧ start + (n - start - m) = mid := by
    split at s1 <;> rename_i h <;> simp only [h, if_true, if_false] at s2 <;> omega
  obtain ⟨g1, g2, g3, g4, g5, g6, g7⟩ := f1
  have cross : ∀ i j, start ≤ i → i < m → m ≤ j → j < n - start → key (x j) < key (x i) := by
    intro i j i1 i2 j1 j2
    have hs : start < (if m > mid then mid else m) := by
      split <;> omega
    have := hi start (Nat.le_refl _) hs
    have a1 := sr.le j1 (show j ≤ n - 1 - start by omega) (by omega)
    have a2 := sl.le g1 i1 i2
    omega
  have cross2 : ∀ i j, a ≤ i → i < start → n - start ≤ j → j < b → key (x i) ≤ key (x j) := by
    intro i j i1 i2 j1 j2
    have hs : (if m > mid then n - b else a) ≤ start - 1 := by
      split <;> omega
    have := lo (start - 1) hs (by omega)
    have a1 := sl.le i1 (show i ≤ start - 1 by omega) (by omega)
    have a2 := sr.le g3 j1 j2
    rw [show n - 1 - (start - 1) = n - start from by omega] at this
    omega
  have r0 : ∀ k, k < start → rot x start m (n - start) k = x k := fun k hk => by unfold rot; rw [if_neg (by omega), if_neg (by omega)]
  have r1 : ∀ k, start ≤ k → k < mid → rot x start m (n - start) k = x (k - start + m) := fun k h1 h2 => by unfold rot; rw [if_pos (by omega)]
  have r2 : ∀ k, mid ≤ k → k < n - start → rot x start m (n - start) k = x (k - (n - start - m)) := fun k h1 h2 => by unfold rot; rw [if_neg (by omega), if_pos (by omega)]
  have r3 : ∀ k, n - start ≤ k → rot x start m (n - start) k = x k := fun k hk => by unfold rot; rw [if_neg (by omega), if_neg (by omega)]
  refine ⟨g1, g2, g3, g4, g5, g6, SE.rot g2 g3 (fun i j i1 i2 j1 j2 => ?_), fun i j i1 i2 i3 => ?_, fun i j i1 i2 i3 => ?_, fun i j i1 i2 i3 => ?_, fun i j i1 i2 i3 => ?_, fun p q p1 p2 q1 q2 => ?_⟩
  · have := cross i j i1 i2 j1 j2; omega
  · rw [r0 i (by omega), r0 j i3]; exact sl i j i1 i2 (by omega)
  · rw [r1 i i1 (by omega), r1 j (by omega) i3]; exact sr _ _ (by omega) (by omega) (by omega)
  · rw [r2 i i1 (by omega), r2 j (by omega) i3]; exact sl _ _ (by omega) (by omega) (by omega)
  · rw [r3 i i1, r3 j (by omega)]; exact sr i j (by omega) i2 i3
  · by_cases hp : p < start
    · rw [r0 p hp]
      by_cases hq : q < n - start
      · rw [r2 q q1 hq]; exact sl.le p1 (by omega) (by omega)
      · rw [r3 q (by omega)]; exact cross2 p q p1 hp (by omega) q2
    · rw [r1 p (by omega) p2]
      by_cases hq : q < n - start
      · rw [r2 q q1 hq]; exact Int.le_of_lt (cross _ _ (by omega) (by omega) (by omega) (by omega))
      · rw [r3 q (by omega)]; exact sr.le (by omega) (by omega) q2
theorem merge_halves {a mid b : Nat} {y z : Nat → α} (h1 : a ≤ mid) (h2 : mid ≤ b) (hz : SE key a mid y z) (hz' : Srt key a mid z) (hc : ∀ p q, a ≤ p → p < mid → mid ≤ q → q < b → key (y p) ≤ key (y q)) {u : Nat → α} (hu : SE key mid b z u) (hu' : Srt key mid b u) :
    SE key a b y u ∧ Srt key a b u := by
  refine ⟨(hz.widen (Nat.le_refl _) h1 h2).trans (hu.widen h1 h2 (Nat.le_refl _)), fun i j i1 i2 i3 => ?_⟩
  by_cases hj : j < mid
  · rw [hu.out i (by omega), hu.out j (by omega)]; exact hz' i j i1 i2 hj
  · by_cases hi : mid ≤ i
    · exact hu' i j hi i2 i3
    · rw [hu.out i (by omega)]
      obtain ⟨i', a1, a2, a3⟩ := hz.mem i1 (by omega : i < mid)
      obtain ⟨j', b1, b2, b3⟩ := hu.mem (by omega : mid ≤ j) i3
      rw [a3, b3, hz.out j' (by omega)]
      exact hc i' j' a1 a2 b1 b2
def moveUp (x : Nat → α) (a k : Nat) : Nat → α := fun q => if a ≤ q ∧ q < k then x (q + 1) else if q = k then x a else x q
theorem moveUp_zero (x : Nat → α) (a : Nat) : moveUp x a a = x := by
  funext q; unfold moveUp; rw [if_neg (by omega)]; split
  · rename_i h; rw [h]
  · rfl
theorem moveUp_at (x : Nat → α) (a k : Nat) : moveUp x a k k = x a ∧ moveUp x a k (k + 1) = x (k + 1) := by
  unfold moveUp; constructor
  · rw [if_neg (by omega), if_pos rfl]
  · rw [if_neg (by omega), if_neg (by omega)]
theorem moveUp_succ (x : Nat → α) {a k : Nat} (h : a ≤ k) (q : Nat) : swap2 (moveUp x a k) k q = moveUp x a (k + 1) q := by
  unfold swap2
  by_cases h1 : q = k
  · rw [if_pos h1, (moveUp_at x a k).2]
    unfold moveUp; rw [if_pos (by omega), h1]
  · rw [if_neg h1]
    by_cases h2 : q = k + 1
    · rw [if_pos h2, (moveUp_at x a k).1]
      unfold moveUp; rw [if_neg (by omega), if_pos h2]
    · rw [if_neg h2]
      unfold moveUp
      by_cases h3 : a ≤ q ∧ q < k
      · rw [if_pos h3, if_pos (by omega)]
      · rw [if_neg h3, if_neg h1, if_neg (show ¬ (a ≤ q ∧ q < k + 1) by omega), if_neg h2]
def moveDown (x : Nat → α) (m k : Nat) : Nat → α := fun q => if k < q ∧ q ≤ m then x (q - 1) else if q = k then x m else x q
theorem moveDown_zero (x : Nat → α) (m : Nat) : moveDown x m m = x := by
  funext q; unfold moveDown; rw [if_neg (by omega)]; split
  · rename_i h; rw [h]
  · rfl
theorem moveDown_at (x : Nat → α) {m k : Nat} (h : k < m) : moveDown x m (k + 1) (k + 1) = x m ∧ moveDown x m (k + 1) k = x k := by
  unfold moveDown; constructor
  · rw [if_neg (by omega), if_pos rfl]
  · rw [if_neg (by omega), if_neg (by omega)]
theorem moveDown_succ (x : Nat → α) {m k : Nat} (h : k < m) (q : Nat) : swap2 (moveDown x m (k + 1)) k q = moveDown x m k q := by
  unfold swap2
  by_cases h1 : q = k
  · rw [if_pos h1, (moveDown_at x h).1]
    unfold moveDown; rw [if_neg (by omega), if_pos h1]
  · rw [if_neg h1]
    by_cases h2 : q = k + 1
    · rw [if_pos h2, (moveDown_at x h).2]
      unfold moveDown; rw [if_pos (by omega)]; congr 1; omega
    · rw [if_neg h2]
      unfold moveDown
      by_cases h3 : k + 1 < q ∧ q ≤ m
      · rw [if_pos h3, if_pos (by omega)]
      · rw [if_neg h3, if_neg h2, if_neg (show ¬ (k < q ∧ q ≤ m) by omega), if_neg h1]
theorem srt_up {a i b : Nat} {x : Nat → α} (h1 : a < i) (h2 : i ≤ b) (sr : Srt key (a + 1) b x) (lo : ∀ k, a + 1 ≤ k → k < i → key (x k) < key (x a)) (hi : ∀ k, i ≤ k → k < b → key (x a) ≤ key (x k)) : Srt key a b (moveUp x a (i - 1)) := by
  intro p q p1 p2 q2
  unfold moveUp
  by_cases c1 : a ≤ p ∧ p < i - 1
  · rw [if_pos c1]
    by_cases c2 : a ≤ q ∧ q < i - 1
    · rw [if_pos c2]; exact sr _ _ (by omega) (by omega) (by omega)
    · rw [if_neg c2]
      by_cases c3 : q = i - 1
      · rw [if_pos c3]; exact Int.le_of_lt (lo _ (by omega) (by omega))
      · rw [if_neg c3]; exact sr _ _ (by omega) (by omega) q2
  · rw [if_neg c1]
    by_cases c3 : p = i - 1
    · rw [if_pos c3, if_neg (by omega), if_neg (by omega)]; exact hi q (by omega) q2
    · rw [if_neg c3, if_neg (by omega), if_neg (by omega)]; exact sr p q (by omega) p2 q2
theorem srt_down {a i m : Nat} {x : Nat → α} (h1 : a ≤ i) (h2 : i ≤ m) (sl : Srt key a m x) (lo : ∀ k, a ≤ k → k < i → key (x k) ≤ key (x m)) (hi : ∀ k, i ≤ k → k < m → key (x m) < key (x k)) : Srt key a (m + 1) (moveDown x m i) := by
  intro p q p1 p2 q2
  unfold moveDown
  by_cases c1 : i < p ∧ p ≤ m
  · rw [if_pos c1, if_pos (by omega)]; exact sl _ _ (by omega) (by omega) (by omega)
  · rw [if_neg c1]
    by_cases c3 : p = i
    · rw [if_pos c3, if_pos (by omega)]; exact Int.le_of_lt (hi _ (by omega) (by omega))
    · rw [if_neg c3]
      by_cases c2 : i < q ∧ q ≤ m
      · rw [if_pos c2]; exact sl _ _ p1 (by omega) (by omega)
      · rw [if_neg c2]
        by_cases c4 : q = i
        · rw [if_pos c4]; exact lo p p1 (by omega)
        · rw [if_neg c4]; exact sl p q p1 p2 (by omega)
end
end Go.Proofs.Ytbamjcnhmmgnlaa
set_option linter.unusedSimpArgs false
set_option linter.unusedVariables false
namespace Go.Proofs.Ytbamjcnhmmgnlaa
open Go.Proofs.Ytbamjcnhmmgnlaa.AL
def rowFK (x : Nat → Cube) : Nat → List Dat := fun i => cb (x i)
theorem rowF_atK (x : Nat → Cube) (i : Nat) : rowFK x i = cb (x i) := rfl
theorem putEl_rowK (x : Nat → Cube) (i : Nat) (r : Cube) (k : Nat) : putEl (rowFK x) i 0 (cb r) k = rowFK (fun k => if k = i then r else x k) k := by
  unfold putEl rowFK
  by_cases h : k = i
  · subst h; simp [cb]
  · simp [h]
theorem putEl_twoK (x : Nat → Cube) (i j : Nat) (r s : Cube) (k : Nat) : putEl (putEl (rowFK x) i 0 (cb r)) j 0 (cb s) k = rowFK (fun k => if k = j then s else if k = i then r else x k) k := by
  rw [show putEl (rowFK x) i 0 (cb r) = rowFK (fun k => if k = i then r else x k) from funext (putEl_rowK x i r), putEl_rowK]
theorem tnPK (a b : Nat) : ((a : Int) + (b : Int)).toNat = a + b := by omega
theorem tnMK (a b : Nat) : ((a : Int) - (b : Int)).toNat = a - b := by omega
theorem tnP1K (a : Nat) : ((a : Int) + 1).toNat = a + 1 := by omega
theorem tnM1K (a : Nat) : ((a : Int) - 1).toNat = a - 1 := by omega
def swapIK (x : Nat → Cube) (n gen a b m : Nat) (cmp : PV) (i : Fin (m + 1)) : ASt :=
  ⟨[(10, .p (.d (.v (.int .i64 (i.val : Int))))), (3, .p (.d (.v (.int .i64 (m : Int))))), (2, .p (.d (.v (.int .i64 (b : Int))))), (1, .p (.d (.v (.int .i64 (a : Int))))), (0, .ow 1000 gen 4 n)],
   [(1000, .own 27 4 n gen (rowFK (swapR x a b i.val)))]⟩
set_option maxRecDepth 100000 in
set_option maxHeartbeats 2000000 in
theorem swapRange_cK (x y : Nat → Cube) (n gen a b m : Nat) (ai bi mi : Int) (cmp : PV) (ha' : ai = a) (hb' : bi = b) (hm' : mi = m) (hab : a + m ≤ b) (hb : b + m ≤ n) (hn : n ≤ 1099511627776) (hy : swapR x a b m = y) :
    MCalls Try.prog 132 [.ow 1000 gen 4 n, .p (.d (.v (.int .i64 ai))), .p (.d (.v (.int .i64 bi))), .p (.d (.v (.int .i64 mi))), .p cmp] [(1000, .own 27 4 n gen (rowFK x))]
      (fun rs M => rs = [] ∧ M = [(1000, .own 27 4 n gen (rowFK y))]) := by
  subst ha' hb' hm' hy
  refine mcalls_of_awp Try.func132 rfl (by decide +kernel) (by rw [Try.ntmps132]; simp) (fun l X h => by simp only [AL.look] at h; (repeat' split at h); all_goals first | omega | cases h) ?_; rw [Try.ntmps132]; simp only [frA]
  (repeat (first | refine j0 ?_ | refine q7 rfl ?_ | refine z7 rfl ?_ | refine x6 ?_ | (refine z5 fun K hK => ?_) | (refine j5 (by kernel_rfl) (by kernel_rfl) fun K hK => ?_) | ((first | refine q6 ?_ | refine z6 ?_ | ((first | refine z3 (hK _ ?_) | refine j4 (hK _ _ (z4 (by kernel_rfl)) ?_)); clear hK K)); (first | show AWP _ _ _ _ _ | ((try simp only [j6]); first | show loopQ _ _ _ _ _ _ | show cutQ _ _ _ _ | show AWP _ _ _ _ _))) | ((first | refine x7 [] rfl ?_ | refine j7 [] rfl ?_); simp (maxSteps := 2000000) (disch := omega) only [go_sem, seval, hd, cb, tnPK, tnMK, tnP1K, tnM1K]; (repeat (first | refine ⟨by omega, ?_⟩ | refine ⟨True.intro, ?_⟩)))))
  refine awp_loop (swapIK x n gen a b m cmp) (fun i => m - i.val) ⟨0, by omega⟩ ?_ (fun s => ?_)
  · unfold swapIK
    rw [swapR_zero]
    refine Weak.list ?_ ?_; (all_goals simp (disch := omega) only [AllF, AllL, q10, z10, j9, exists_eq_left', Option.some.injEq, go_sem, seval, hd, cb, tnPK, tnMK, tnP1K, tnM1K]); (all_goals (repeat' (with_reducible apply And.intro))); (all_goals try (first | exact q8 rfl | (refine x10 ?_; omega) | (refine q8 ?_; simp; done)))
  obtain ⟨i, hi⟩ := s
  unfold swapIK
  by_cases h : i < m
  · obtain ⟨s1, s2⟩ := swapR_at x (show a + i < b by omega)
    have r1 := rowF_atK (swapR x a b i) (b + i)
    have r2 := rowF_atK (swapR x a b i) (a + i)
    rw [s1] at r1
    rw [s2] at r2
    (repeat (first | refine j0 ?_ | refine q7 rfl ?_ | refine z7 rfl ?_ | refine x6 ?_ | (refine z5 fun K hK => ?_) | (refine j5 (by kernel_rfl) (by kernel_rfl) fun K hK => ?_) | ((first | refine q6 ?_ | refine z6 ?_ | ((first | refine z3 (hK _ ?_) | refine j4 (hK _ _ (z4 (by kernel_rfl)) ?_)); clear hK K)); (first | show AWP _ _ _ _ _ | ((try simp only [j6]); first | show loopQ _ _ _ _ _ _ | show cutQ _ _ _ _ | show AWP _ _ _ _ _))) | ((first | refine x7 [] rfl ?_ | refine j7 [] rfl ?_); simp (maxSteps := 2000000) (disch := omega) only [go_sem, seval, hd, cb, tnPK, tnMK, tnP1K, tnM1K, r1, r2]; (repeat (first | refine ⟨by omega, ?_⟩ | refine ⟨True.intro, ?_⟩)))))
    refine ⟨⟨i + 1, by omega⟩, by simp only []; omega, ?_⟩
    refine Weak.list ?_ ?_; (all_goals simp (disch := omega) only [AllF, AllL, q10, z10, j9, exists_eq_left', Option.some.injEq, go_sem, seval, hd, cb, tnPK, tnMK, tnP1K, tnM1K, r1, r2]); (all_goals (repeat' (with_reducible apply And.intro))); (all_goals try (first | exact q8 rfl | (refine x10 ?_; omega) | (refine q8 ?_; simp; done)))
    exact lle_own rfl rfl (fun k _ => (putEl_twoK (swapR x a b i) (a + i) (b + i) (x (b + i)) (x (a + i)) k).trans (congrArg cb (swapR_succ x (by omega))))
  · have : i = m := by omega
    subst this
    (repeat (first | refine j0 ?_ | refine q7 rfl ?_ | refine z7 rfl ?_ | refine x6 ?_ | (refine z5 fun K hK => ?_) | (refine j5 (by kernel_rfl) (by kernel_rfl) fun K hK => ?_) | ((first | refine q6 ?_ | refine z6 ?_ | ((first | refine z3 (hK _ ?_) | refine j4 (hK _ _ (z4 (by kernel_rfl)) ?_)); clear hK K)); (first | show AWP _ _ _ _ _ | ((try simp only [j6]); first | show loopQ _ _ _ _ _ _ | show cutQ _ _ _ _ | show AWP _ _ _ _ _))) | ((first | refine x7 [] rfl ?_ | refine j7 [] rfl ?_); simp (maxSteps := 2000000) (disch := omega) only [go_sem, seval, hd, cb, tnPK, tnMK, tnP1K, tnM1K]; (repeat (first | refine ⟨by omega, ?_⟩ | refine ⟨True.intro, ?_⟩)))))
    (first | (refine z3 (hK _ ?_); exact (retM_void rfl rfl ⟨rfl, rfl⟩).1) | (refine z6 ?_; exact (retM_void rfl rfl ⟨rfl, rfl⟩).1) | (refine q6 ?_; exact (retM_void rfl rfl ⟨rfl, rfl⟩).1) | (refine j8 ?_; exact (retM_void rfl rfl ⟨rfl, rfl⟩).2) | exact (retM_void rfl rfl ⟨rfl, rfl⟩).1)
def rotIK (x : Nat → Cube) (n gen a m b : Nat) (cmp : PV) (s : {s : Nat × Nat × (Nat → Cube) // 0 < s.1 ∧ 0 < s.2.1 ∧ s.1 ≤ m - a ∧ s.2.1 ≤ b - m ∧ rot s.2.2 (m - s.1) m (m + s.2.1) = rot x a m b}) : ASt :=
  ⟨[(11, .p (.d (.v (.int .i64 (s.val.2.1 : Int))))), (10, .p (.d (.v (.int .i64 (s.val.1 : Int))))), (4, .p cmp), (2, .p (.d (.v (.int .i64 (m : Int))))), (0, .ow 1000 gen 4 n)],
   [(1000, .own 27 4 n gen (rowFK s.val.2.2))]⟩
set_option maxRecDepth 100000 in
set_option maxHeartbeats 2000000 in
theorem rotate_cK (x : Nat → Cube) (n gen a m b : Nat) (ai mi bi : Int) (cmp : PV) (ha' : ai = a) (hm' : mi = m) (hb' : bi = b) (ham : a < m) (hmb : m < b) (hb : b ≤ n) (hn : n ≤ 1099511627776) :
    MCalls Try.prog 129 [.ow 1000 gen 4 n, .p (.d (.v (.int .i64 ai))), .p (.d (.v (.int .i64 mi))), .p (.d (.v (.int .i64 bi))), .p cmp] [(1000, .own 27 4 n gen (rowFK x))]
      (fun rs M => rs = [] ∧ M = [(1000, .own 27 4 n gen (rowFK (rot x a m b)))]) := by
  subst ha' hm' hb'
  refine mcalls_of_awp Try.func129 rfl (by decide +kernel) (by rw [Try.ntmps129]; simp) (fun l X h => by simp only [AL.look] at h; (repeat' split at h); all_goals first | omega | cases h) ?_; rw [Try.ntmps129]; simp only [frA]
  (repeat (first | refine j0 ?_ | refine q7 rfl ?_ | refine z7 rfl ?_ | refine x6 ?_ | (refine z5 fun K hK => ?_) | (refine j5 (by kernel_rfl) (by kernel_rfl) fun K hK => ?_) | ((first | refine q6 ?_ | refine z6 ?_ | ((first | refine z3 (hK _ ?_) | refine j4 (hK _ _ (z4 (by kernel_rfl)) ?_)); clear hK K)); (first | show AWP _ _ _ _ _ | ((try simp only [j6]); first | show loopQ _ _ _ _ _ _ | show cutQ _ _ _ _ | show AWP _ _ _ _ _))) | ((first | refine x7 [] rfl ?_ | refine j7 [] rfl ?_); simp (maxSteps := 2000000) (disch := omega) only [go_sem, seval, hd, cb, tnPK, tnMK, tnP1K, tnM1K]; (repeat (first | refine ⟨by omega, ?_⟩ | refine ⟨True.intro, ?_⟩)))))
  refine awp_loop (rotIK x n gen a m b cmp) (fun s => s.val.1 + s.val.2.1) ⟨(m - a, b - m, x), by simp only []; omega, by simp only []; omega, by simp, by simp, by simp only []; congr 1 <;> omega⟩ ?_ (fun s => ?_)
  · unfold rotIK
    refine Weak.list ?_ ?_; (all_goals simp (disch := omega) only [AllF, AllL, q10, z10, j9, exists_eq_left', Option.some.injEq, go_sem, seval, hd, cb, tnPK, tnMK, tnP1K, tnM1K]); (all_goals (repeat' (with_reducible apply And.intro))); (all_goals try (first | exact q8 rfl | (refine x10 ?_; omega) | (refine q8 ?_; simp; done)))
  obtain ⟨⟨i, j, y⟩, hi, hj, hi2, hj2, he⟩ := s
  unfold rotIK
  simp only [] at hi hj hi2 hj2 he
  by_cases h : i = j
  · subst h
    have q : ((i : Int) != (i : Int)) = false := by simp
    (repeat (first | refine j0 ?_ | refine q7 rfl ?_ | refine z7 rfl ?_ | refine x6 ?_ | (refine z5 fun K hK => ?_) | (refine j5 (by kernel_rfl) (by kernel_rfl) fun K hK => ?_) | ((first | refine q6 ?_ | refine z6 ?_ | ((first | refine z3 (hK _ ?_) | refine j4 (hK _ _ (z4 (by kernel_rfl)) ?_)); clear hK K)); (first | show AWP _ _ _ _ _ | ((try simp only [j6]); first | show loopQ _ _ _ _ _ _ | show cutQ _ _ _ _ | show AWP _ _ _ _ _))) | ((first | refine x7 [] rfl ?_ | refine j7 [] rfl ?_); simp (maxSteps := 2000000) (disch := omega) only [go_sem, seval, hd, cb, tnPK, tnMK, tnP1K, tnM1K, q]; (repeat (first | refine ⟨by omega, ?_⟩ | refine ⟨True.intro, ?_⟩)))))
    (refine walkS_cons _ (step_mcall [(1000, 1000)] rfl rfl rfl rfl rfl rfl (swapRange_cK y _ n gen (m - i) m i _ _ _ cmp (by omega) rfl rfl (by omega) (by omega) hn ((rot_same y (by omega)).trans he)) rfl (namesOK_of (by repeat (first | exact trivial | refine ⟨rfl, ?_⟩)) (by kernel_rfl))) ?_); simp (maxSteps := 2000000) (disch := omega) only [go_sem, seval, hd, cb, tnPK, tnMK, tnP1K, tnM1K, q]
    (repeat (first | refine j0 ?_ | refine q7 rfl ?_ | refine z7 rfl ?_ | refine x6 ?_ | (refine z5 fun K hK => ?_) | (refine j5 (by kernel_rfl) (by kernel_rfl) fun K hK => ?_) | ((first | refine q6 ?_ | refine z6 ?_ | ((first | refine z3 (hK _ ?_) | refine j4 (hK _ _ (z4 (by kernel_rfl)) ?_)); clear hK K)); (first | show AWP _ _ _ _ _ | ((try simp only [j6]); first | show loopQ _ _ _ _ _ _ | show cutQ _ _ _ _ | show AWP _ _ _ _ _))) | ((first | refine x7 [] rfl ?_ | refine j7 [] rfl ?_); simp (maxSteps := 2000000) (disch := omega) only [go_sem, seval, hd, cb, tnPK, tnMK, tnP1K, tnM1K, q]; (repeat (first | refine ⟨by omega, ?_⟩ | refine ⟨True.intro, ?_⟩)))))
    (first | (refine z3 (hK _ ?_); exact (retM_void rfl rfl ⟨rfl, rfl⟩).1) | (refine z6 ?_; exact (retM_void rfl rfl ⟨rfl, rfl⟩).1) | (refine q6 ?_; exact (retM_void rfl rfl ⟨rfl, rfl⟩).1) | (refine j8 ?_; exact (retM_void rfl rfl ⟨rfl, rfl⟩).2) | exact (retM_void rfl rfl ⟨rfl, rfl⟩).1)
  · have q : ((i : Int) != (j : Int)) = true := by simp; omega
    by_cases hlt : j < i
    · (repeat (first | refine j0 ?_ | refine q7 rfl ?_ | refine z7 rfl ?_ | refine x6 ?_ | (refine z5 fun K hK => ?_) | (refine j5 (by kernel_rfl) (by kernel_rfl) fun K hK => ?_) | ((first | refine q6 ?_ | refine z6 ?_ | ((first | refine z3 (hK _ ?_) | refine j4 (hK _ _ (z4 (by kernel_rfl)) ?_)); clear hK K)); (first | show AWP _ _ _ _ _ | ((try simp only [j6]); first | show loopQ _ _ _ _ _ _ | show cutQ _ _ _ _ | show AWP _ _ _ _ _))) | ((first | refine x7 [] rfl ?_ | refine j7 [] rfl ?_); simp (maxSteps := 2000000) (disch := omega) only [go_sem, seval, hd, cb, tnPK, tnMK, tnP1K, tnM1K, q]; (repeat (first | refine ⟨by omega, ?_⟩ | refine ⟨True.intro, ?_⟩)))))
      (refine walkS_cons _ (step_mcall [(1000, 1000)] rfl rfl rfl rfl rfl rfl (swapRange_cK y _ n gen (m - i) m j _ _ _ cmp (by omega) rfl rfl (by omega) (by omega) hn rfl) rfl (namesOK_of (by repeat (first | exact trivial | refine ⟨rfl, ?_⟩)) (by kernel_rfl))) ?_); simp (maxSteps := 2000000) (disch := omega) only [go_sem, seval, hd, cb, tnPK, tnMK, tnP1K, tnM1K, q]
      (repeat (first | refine j0 ?_ | refine q7 rfl ?_ | refine z7 rfl ?_ | refine x6 ?_ | (refine z5 fun K hK => ?_) | (refine j5 (by kernel_rfl) (by kernel_rfl) fun K hK => ?_) | ((first | refine q6 ?_ | refine z6 ?_ | ((first | refine z3 (hK _ ?_) | refine j4 (hK _ _ (z4 (by kernel_rfl)) ?_)); clear hK K)); (first | show AWP _ _ _ _ _ | ((try simp only [j6]); first | show loopQ _ _ _ _ _ _ | show cutQ _ _ _ _ | show AWP _ _ _ _ _))) | ((first | refine x7 [] rfl ?_ | refine j7 [] rfl ?_); simp (maxSteps := 2000000) (disch := omega) only [go_sem, seval, hd, cb, tnPK, tnMK, tnP1K, tnM1K, q]; (repeat (first | refine ⟨by omega, ?_⟩ | refine ⟨True.intro, ?_⟩)))))
      refine ⟨⟨(i - j, j, swapR y (m - i) m j), by simp only []; omega, hj, by simp only []; omega, hj2, (rot_left y hj hlt (by omega)).trans he⟩, by simp only []; omega, ?_⟩
      refine Weak.list ?_ ?_; (all_goals simp (disch := omega) only [AllF, AllL, q10, z10, j9, exists_eq_left', Option.some.injEq, go_sem, seval, hd, cb, tnPK, tnMK, tnP1K, tnM1K, q]); (all_goals (repeat' (with_reducible apply And.intro))); (all_goals try (first | exact q8 rfl | (refine x10 ?_; omega) | (refine q8 ?_; simp; done)))
    · (repeat (first | refine j0 ?_ | refine q7 rfl ?_ | refine z7 rfl ?_ | refine x6 ?_ | (refine z5 fun K hK => ?_) | (refine j5 (by kernel_rfl) (by kernel_rfl) fun K hK => ?_) | ((first | refine q6 ?_ | refine z6 ?_ | ((first | refine z3 (hK _ ?_) | refine j4 (hK _ _ (z4 (by kernel_rfl)) ?_)); clear hK K)); (first | show AWP _ _ _ _ _ | ((try simp only [j6]); first | show loopQ _ _ _ _ _ _ | show cutQ _ _ _ _ | show AWP _ _ _ _ _))) | ((first | refine x7 [] rfl ?_ | refine j7 [] rfl ?_); simp (maxSteps := 2000000) (disch := omega) only [go_sem, seval, hd, cb, tnPK, tnMK, tnP1K, tnM1K, q]; (repeat (first | refine ⟨by omega, ?_⟩ | refine ⟨True.intro, ?_⟩)))))
      (refine walkS_cons _ (step_mcall [(1000, 1000)] rfl rfl rfl rfl rfl rfl (swapRange_cK y _ n gen (m - i) (m + j - i) i _ _ _ cmp (by omega) (by omega) rfl (by omega) (by omega) hn rfl) rfl (namesOK_of (by repeat (first | exact trivial | refine ⟨rfl, ?_⟩)) (by kernel_rfl))) ?_); simp (maxSteps := 2000000) (disch := omega) only [go_sem, seval, hd, cb, tnPK, tnMK, tnP1K, tnM1K, q]
      (repeat (first | refine j0 ?_ | refine q7 rfl ?_ | refine z7 rfl ?_ | refine x6 ?_ | (refine z5 fun K hK => ?_) | (refine j5 (by kernel_rfl) (by kernel_rfl) fun K hK => ?_) | ((first | refine q6 ?_ | refine z6 ?_ | ((first | refine z3 (hK _ ?_) | refine j4 (hK _ _ (z4 (by kernel_rfl)) ?_)); clear hK K)); (first | show AWP _ _ _ _ _ | ((try simp only [j6]); first | show loopQ _ _ _ _ _ _ | show cutQ _ _ _ _ | show AWP _ _ _ _ _))) | ((first | refine x7 [] rfl ?_ | refine j7 [] rfl ?_); simp (maxSteps := 2000000) (disch := omega) only [go_sem, seval, hd, cb, tnPK, tnMK, tnP1K, tnM1K, q]; (repeat (first | refine ⟨by omega, ?_⟩ | refine ⟨True.intro, ?_⟩)))))
      refine ⟨⟨(i, j - i, swapR y (m - i) (m + j - i) i), hi, by simp only []; omega, hi2, by simp only []; omega, (rot_right y hi (by omega) (by omega)).trans he⟩, by simp only []; omega, ?_⟩
      refine Weak.list ?_ ?_; (all_goals simp (disch := omega) only [AllF, AllL, q10, z10, j9, exists_eq_left', Option.some.injEq, go_sem, seval, hd, cb, tnPK, tnMK, tnP1K, tnM1K, q]); (all_goals (repeat' (with_reducible apply And.intro))); (all_goals try (first | exact q8 rfl | (refine x10 ?_; omega) | (refine q8 ?_; simp; done)))
structure CmpK (P : Program) (g : FuncId) (key : Cube → Int) (c : Cube → Cube → Int) : Prop where
  call : ∀ p q, ACalls P g [.agg (cb p), .agg (cb q)] (· = [.d (.v (.int .i64 (c p q)))])
  lt : ∀ p q, c p q < 0 ↔ key p < key q
def insIK (key : Cube → Int) (x : Nat → Cube) (n gen a b : Nat) (g : FuncId) (s : {s : Nat × (Nat → Cube) // a + 1 ≤ s.1 ∧ (s.1 ≤ b ∨ s.1 = a + 1) ∧ SE key a b x s.2 ∧ Srt key a s.1 s.2}) : ASt :=
  ⟨[(8, .p (.d (.v (.int .i64 (s.val.1 : Int))))), (3, .p (.fn (.func g) [] [])), (2, .p (.d (.v (.int .i64 (b : Int))))), (1, .p (.d (.v (.int .i64 (a : Int))))), (0, .ow 1000 gen 4 n)],
   [(1000, .own 27 4 n gen (rowFK s.val.2))]⟩
def insJK (key : Cube → Int) (x : Nat → Cube) (n gen a b i : Nat) (g : FuncId) (s : {s : Nat × (Nat → Cube) // a ≤ s.1 ∧ s.1 ≤ i ∧ SE key a b x s.2 ∧ InsAt key a i s.1 s.2}) : ASt :=
  ⟨[(9, .p (.d (.v (.int .i64 (s.val.1 : Int))))), (8, .p (.d (.v (.int .i64 (i : Int))))), (3, .p (.fn (.func g) [] [])), (2, .p (.d (.v (.int .i64 (b : Int))))), (1, .p (.d (.v (.int .i64 (a : Int))))), (0, .ow 1000 gen 4 n)],
   [(1000, .own 27 4 n gen (rowFK s.val.2))]⟩
set_option maxRecDepth 100000 in
set_option maxHeartbeats 2000000 in
theorem insertion_cK {key : Cube → Int} {c : Cube → Cube → Int} {g : FuncId} (hc : CmpK Try.prog g key c) (x y : Nat → Cube) (n gen a b : Nat) (ai bi : Int) (ha' : ai = a) (hb' : bi = b) (hab : a ≤ b) (hb : b ≤ n) (hn : n ≤ 1099511627776) (hy : stab key a b x = y) :
    MCalls Try.prog 117 [.ow 1000 gen 4 n, .p (.d (.v (.int .i64 ai))), .p (.d (.v (.int .i64 bi))), .p (.fn (.func g) [] [])] [(1000, .own 27 4 n gen (rowFK x))]
      (fun rs M => rs = [] ∧ M = [(1000, .own 27 4 n gen (rowFK y))]) := by
  subst ha' hb' hy
  refine mcalls_of_awp Try.func117 rfl (by decide +kernel) (by rw [Try.ntmps117]; simp) (fun l X h => by simp only [AL.look] at h; (repeat' split at h); all_goals first | omega | cases h) ?_; rw [Try.ntmps117]; simp only [frA]
  (repeat (first | refine j0 ?_ | refine q7 rfl ?_ | refine z7 rfl ?_ | refine x6 ?_ | (refine z5 fun K hK => ?_) | (refine j5 (by kernel_rfl) (by kernel_rfl) fun K hK => ?_) | ((first | refine q6 ?_ | refine z6 ?_ | ((first | refine z3 (hK _ ?_) | refine j4 (hK _ _ (z4 (by kernel_rfl)) ?_)); clear hK K)); (first | show AWP _ _ _ _ _ | ((try simp only [j6]); first | show loopQ _ _ _ _ _ _ | show cutQ _ _ _ _ | show AWP _ _ _ _ _))) | ((first | refine x7 [] rfl ?_ | refine j7 [] rfl ?_); simp (maxSteps := 2000000) (disch := omega) only [go_sem, seval, hd, cb, tnPK, tnMK, tnP1K, tnM1K]; (repeat (first | refine ⟨by omega, ?_⟩ | refine ⟨True.intro, ?_⟩)))))
  refine awp_loop (insIK key x n gen a b g) (fun s => b - s.val.1) ⟨(a + 1, x), by simp, by simp, SE.refl _ _ _, fun i j h1 h2 h3 => by simp only [] at h3; omega⟩ ?_ (fun s => ?_)
  · unfold insIK
    refine Weak.list ?_ ?_; (all_goals simp (disch := omega) only [AllF, AllL, q10, z10, j9, exists_eq_left', Option.some.injEq, go_sem, seval, hd, cb, tnPK, tnMK, tnP1K, tnM1K]); (all_goals (repeat' (with_reducible apply And.intro))); (all_goals try (first | exact q8 rfl | (refine x10 ?_; omega) | (refine q8 ?_; simp; done)))
  obtain ⟨⟨i, y⟩, hi, hi2, hse, hs⟩ := s
  unfold insIK
  simp only [] at hi hi2 hse hs
  by_cases h : i < b
  · (repeat (first | refine j0 ?_ | refine q7 rfl ?_ | refine z7 rfl ?_ | refine x6 ?_ | (refine z5 fun K hK => ?_) | (refine j5 (by kernel_rfl) (by kernel_rfl) fun K hK => ?_) | ((first | refine q6 ?_ | refine z6 ?_ | ((first | refine z3 (hK _ ?_) | refine j4 (hK _ _ (z4 (by kernel_rfl)) ?_)); clear hK K)); (first | show AWP _ _ _ _ _ | ((try simp only [j6]); first | show loopQ _ _ _ _ _ _ | show cutQ _ _ _ _ | show AWP _ _ _ _ _))) | ((first | refine x7 [] rfl ?_ | refine j7 [] rfl ?_); simp (maxSteps := 2000000) (disch := omega) only [go_sem, seval, hd, cb, tnPK, tnMK, tnP1K, tnM1K]; (repeat (first | refine ⟨by omega, ?_⟩ | refine ⟨True.intro, ?_⟩)))))
    refine awp_loop (insJK key x n gen a b i g) (fun s => s.val.1) ⟨(i, y), by simp only []; omega, Nat.le_refl _, hse, InsAt.start hs⟩ ?_ (fun s => ?_)
    · unfold insJK
      refine Weak.list ?_ ?_; (all_goals simp (disch := omega) only [AllF, AllL, q10, z10, j9, exists_eq_left', Option.some.injEq, go_sem, seval, hd, cb, tnPK, tnMK, tnP1K, tnM1K]); (all_goals (repeat' (with_reducible apply And.intro))); (all_goals try (first | exact q8 rfl | (refine x10 ?_; omega) | (refine q8 ?_; simp; done)))
    obtain ⟨⟨j, z⟩, hj, hj2, hse2, hin⟩ := s
    unfold insJK
    simp only [] at hj hj2 hse2 hin
    by_cases hja : a < j
    · obtain ⟨j, rfl⟩ : ∃ k, j = k + 1 := ⟨j - 1, by omega⟩
      have r1 := rowF_atK z (j + 1)
      have r2 := rowF_atK z j
      have cc := hc.call (z (j + 1)) (z j)
      have cl := hc.lt (z (j + 1)) (z j)
      generalize c (z (j + 1)) (z j) = c0 at cc cl
      by_cases hlt : c0 < 0
      · (repeat (first | refine j0 ?_ | refine q7 rfl ?_ | refine z7 rfl ?_ | refine x6 ?_ | (refine z5 fun K hK => ?_) | (refine j5 (by kernel_rfl) (by kernel_rfl) fun K hK => ?_) | ((first | refine q6 ?_ | refine z6 ?_ | ((first | refine z3 (hK _ ?_) | refine j4 (hK _ _ (z4 (by kernel_rfl)) ?_)); clear hK K)); (first | show AWP _ _ _ _ _ | ((try simp only [j6]); first | show loopQ _ _ _ _ _ _ | show cutQ _ _ _ _ | show AWP _ _ _ _ _))) | ((first | refine z9 rfl rfl rfl ?_ | refine x9 rfl rfl rfl ?_); simp (maxSteps := 2000000) (disch := omega) only [go_sem, seval, hd, cb, tnPK, tnMK, tnP1K, tnM1K, r1, r2]; (first | refine ⟨_, cc, ?_⟩)) | ((first | refine x7 [] rfl ?_ | refine j7 [] rfl ?_); simp (maxSteps := 2000000) (disch := omega) only [go_sem, seval, hd, cb, tnPK, tnMK, tnP1K, tnM1K, r1, r2]; (repeat (first | refine ⟨by omega, ?_⟩ | refine ⟨True.intro, ?_⟩)))))
        refine ⟨⟨(j, swap2 z j), by simp only []; omega, by simp only []; omega, hse2.trans ((SE.swap (by have := cl.1 hlt; omega)).widen (by omega) (by omega) (by omega)), hin.step (by omega) (by omega) (cl.1 hlt)⟩, by simp only []; omega, ?_⟩
        refine Weak.list ?_ ?_; (all_goals simp (disch := omega) only [AllF, AllL, q10, z10, j9, exists_eq_left', Option.some.injEq, go_sem, seval, hd, cb, tnPK, tnMK, tnP1K, tnM1K, r1, r2]); (all_goals (repeat' (with_reducible apply And.intro))); (all_goals try (first | exact q8 rfl | (refine x10 ?_; omega) | (refine q8 ?_; simp; done)))
        exact lle_own rfl rfl (fun k _ => putEl_twoK z (j + 1) j (z j) (z (j + 1)) k)
      · (repeat (first | refine j0 ?_ | refine q7 rfl ?_ | refine z7 rfl ?_ | refine x6 ?_ | (refine z5 fun K hK => ?_) | (refine j5 (by kernel_rfl) (by kernel_rfl) fun K hK => ?_) | ((first | refine q6 ?_ | refine z6 ?_ | ((first | refine z3 (hK _ ?_) | refine j4 (hK _ _ (z4 (by kernel_rfl)) ?_)); clear hK K)); (first | show AWP _ _ _ _ _ | ((try simp only [j6]); first | show loopQ _ _ _ _ _ _ | show cutQ _ _ _ _ | show AWP _ _ _ _ _))) | ((first | refine z9 rfl rfl rfl ?_ | refine x9 rfl rfl rfl ?_); simp (maxSteps := 2000000) (disch := omega) only [go_sem, seval, hd, cb, tnPK, tnMK, tnP1K, tnM1K, r1, r2]; (first | refine ⟨_, cc, ?_⟩)) | ((first | refine x7 [] rfl ?_ | refine j7 [] rfl ?_); simp (maxSteps := 2000000) (disch := omega) only [go_sem, seval, hd, cb, tnPK, tnMK, tnP1K, tnM1K, r1, r2]; (repeat (first | refine ⟨by omega, ?_⟩ | refine ⟨True.intro, ?_⟩)))))
        refine ⟨⟨(i + 1, z), by simp only []; omega, by simp only []; omega, hse2, hin.done hj2 (.inr (by have : ¬ key (z (j + 1)) < key (z j) := fun e => hlt (cl.2 e); rw [Nat.add_sub_cancel]; omega))⟩, by simp only []; omega, ?_⟩
        refine Weak.list ?_ ?_; (all_goals simp (disch := omega) only [AllF, AllL, q10, z10, j9, exists_eq_left', Option.some.injEq, go_sem, seval, hd, cb, tnPK, tnMK, tnP1K, tnM1K, r1, r2]); (all_goals (repeat' (with_reducible apply And.intro))); (all_goals try (first | exact q8 rfl | (refine x10 ?_; omega) | (refine q8 ?_; simp; done)))
    · (repeat (first | refine j0 ?_ | refine q7 rfl ?_ | refine z7 rfl ?_ | refine x6 ?_ | (refine z5 fun K hK => ?_) | (refine j5 (by kernel_rfl) (by kernel_rfl) fun K hK => ?_) | ((first | refine q6 ?_ | refine z6 ?_ | ((first | refine z3 (hK _ ?_) | refine j4 (hK _ _ (z4 (by kernel_rfl)) ?_)); clear hK K)); (first | show AWP _ _ _ _ _ | ((try simp only [j6]); first | show loopQ _ _ _ _ _ _ | show cutQ _ _ _ _ | show AWP _ _ _ _ _))) | ((first | refine x7 [] rfl ?_ | refine j7 [] rfl ?_); simp (maxSteps := 2000000) (disch := omega) only [go_sem, seval, hd, cb, tnPK, tnMK, tnP1K, tnM1K]; (repeat (first | refine ⟨by omega, ?_⟩ | refine ⟨True.intro, ?_⟩)))))
      refine ⟨⟨(i + 1, z), by simp only []; omega, by simp only []; omega, hse2, hin.done hj2 (.inl (by omega))⟩, by simp only []; omega, ?_⟩
      refine Weak.list ?_ ?_; (all_goals simp (disch := omega) only [AllF, AllL, q10, z10, j9, exists_eq_left', Option.some.injEq, go_sem, seval, hd, cb, tnPK, tnMK, tnP1K, tnM1K]); (all_goals (repeat' (with_reducible apply And.intro))); (all_goals try (first | exact q8 rfl | (refine x10 ?_; omega) | (refine q8 ?_; simp; done)))
  · (repeat (first | refine j0 ?_ | refine q7 rfl ?_ | refine z7 rfl ?_ | refine x6 ?_ | (refine z5 fun K hK => ?_) | (refine j5 (by kernel_rfl) (by kernel_rfl) fun K hK => ?_) | ((first | refine q6 ?_ | refine z6 ?_ | ((first | refine z3 (hK _ ?_) | refine j4 (hK _ _ (z4 (by kernel_rfl)) ?_)); clear hK K)); (first | show AWP _ _ _ _ _ | ((try simp only [j6]); first | show loopQ _ _ _ _ _ _ | show cutQ _ _ _ _ | show AWP _ _ _ _ _))) | ((first | refine x7 [] rfl ?_ | refine j7 [] rfl ?_); simp (maxSteps := 2000000) (disch := omega) only [go_sem, seval, hd, cb, tnPK, tnMK, tnP1K, tnM1K]; (repeat (first | refine ⟨by omega, ?_⟩ | refine ⟨True.intro, ?_⟩)))))
    have hs' : Srt key a b y := fun p q h1 h2 h3 => hs p q h1 h2 (by omega)
    have ey := funext (stab_eq hse hs')
    subst ey
    (first | (refine z3 (hK _ ?_); exact (retM_void rfl rfl ⟨rfl, rfl⟩).1) | (refine z6 ?_; exact (retM_void rfl rfl ⟨rfl, rfl⟩).1) | (refine q6 ?_; exact (retM_void rfl rfl ⟨rfl, rfl⟩).1) | (refine j8 ?_; exact (retM_void rfl rfl ⟨rfl, rfl⟩).2) | exact (retM_void rfl rfl ⟨rfl, rfl⟩).1)
end Go.Proofs.Ytbamjcnhmmgnlaa
set_option linter.unusedSimpArgs false
set_option linter.unusedVariables false
namespace Go.Proofs.Ytbamjcnhmmgnlaa
open Go.Proofs.Ytbamjcnhmmgnlaa.AL
theorem halfK (i j : Nat) : ((i : Int) + (j : Int)) / 2 ^ min 1 64 = (((i + j) / 2 : Nat) : Int) := by
  have : (2 : Int) ^ min 1 64 = 2 := by decide
  rw [this]; omega
def smAK (key : Cube → Int) (x : Nat → Cube) (n gen a m b : Nat) (g : FuncId) (s : {s : Nat × Nat // m ≤ s.1 ∧ s.1 ≤ s.2 ∧ s.2 ≤ b ∧ (∀ k, m ≤ k → k < s.1 → key (x k) < key (x a)) ∧ ∀ k, s.2 ≤ k → k < b → key (x a) ≤ key (x k)}) : ASt :=
  ⟨[(11, .p (.d (.v (.int .i64 (s.val.2 : Int))))), (10, .p (.d (.v (.int .i64 (s.val.1 : Int))))), (4, .p (.fn (.func g) [] [])), (1, .p (.d (.v (.int .i64 (a : Int))))), (0, .ow 1000 gen 4 n)],
   [(1000, .own 27 4 n gen (rowFK x))]⟩
def smBK (key : Cube → Int) (x : Nat → Cube) (n gen a i b : Nat) (s : {k : Nat // a ≤ k ∧ k < i ∧ SE key a b x (moveUp x a k)}) : ASt :=
  ⟨[(13, .p (.d (.v (.int .i64 (s.val : Int))))), (10, .p (.d (.v (.int .i64 (i : Int))))), (0, .ow 1000 gen 4 n)],
   [(1000, .own 27 4 n gen (rowFK (moveUp x a s.val)))]⟩
def smCK (key : Cube → Int) (x : Nat → Cube) (n gen a m b : Nat) (g : FuncId) (s : {s : Nat × Nat // a ≤ s.1 ∧ s.1 ≤ s.2 ∧ s.2 ≤ m ∧ (∀ k, a ≤ k → k < s.1 → key (x k) ≤ key (x m)) ∧ ∀ k, s.2 ≤ k → k < m → key (x m) < key (x k)}) : ASt :=
  ⟨[(15, .p (.d (.v (.int .i64 (s.val.2 : Int))))), (14, .p (.d (.v (.int .i64 (s.val.1 : Int))))), (4, .p (.fn (.func g) [] [])), (2, .p (.d (.v (.int .i64 (m : Int))))), (0, .ow 1000 gen 4 n)],
   [(1000, .own 27 4 n gen (rowFK x))]⟩
def smDK (key : Cube → Int) (x : Nat → Cube) (n gen a i m b : Nat) (s : {k : Nat // i ≤ k ∧ k ≤ m ∧ SE key a b x (moveDown x m k)}) : ASt :=
  ⟨[(17, .p (.d (.v (.int .i64 (s.val : Int))))), (14, .p (.d (.v (.int .i64 (i : Int))))), (0, .ow 1000 gen 4 n)],
   [(1000, .own 27 4 n gen (rowFK (moveDown x m s.val)))]⟩
def smEK (key : Cube → Int) (x : Nat → Cube) (n gen a m b mid N s0 r0 : Nat) (g : FuncId) (s : {s : Nat × Nat // s0 ≤ s.1 ∧ s.1 ≤ s.2 ∧ s.2 ≤ r0 ∧ (∀ c, s0 ≤ c → c < s.1 → key (x c) ≤ key (x (N - 1 - c))) ∧ ∀ c, s.2 ≤ c → c < r0 → key (x (N - 1 - c)) < key (x c)}) : ASt :=
  ⟨[(22, .p (.d (.v (.int .i64 ((N - 1 : Nat) : Int))))), (21, .p (.d (.v (.int .i64 (s.val.2 : Int))))), (20, .p (.d (.v (.int .i64 (s.val.1 : Int))))), (19, .p (.d (.v (.int .i64 (N : Int))))), (18, .p (.d (.v (.int .i64 (mid : Int))))),
    (4, .p (.fn (.func g) [] [])), (3, .p (.d (.v (.int .i64 (b : Int))))), (2, .p (.d (.v (.int .i64 (m : Int))))), (1, .p (.d (.v (.int .i64 (a : Int))))), (0, .ow 1000 gen 4 n)],
   [(1000, .own 27 4 n gen (rowFK x))]⟩
theorem stab_idK {key : Cube → Int} {a b : Nat} {x : Nat → Cube} (h : Srt key a b x) : stab key a b x = x := (funext (stab_eq (SE.refl a b x) h)).symm
set_option maxRecDepth 100000 in
set_option maxHeartbeats 4000000 in
theorem symMerge_cK {key : Cube → Int} {c : Cube → Cube → Int} {g : FuncId} (hc : CmpK Try.prog g key c) (n gen : Nat) (hn : n ≤ 1099511627776) : ∀ (M : Nat) (x y : Nat → Cube) (a m b : Nat) (ai mi bi : Int), b - a ≤ M → ai = a → mi = m → bi = b → a < m → m < b → b ≤ n → Srt key a m x → Srt key m b x → stab key a b x = y →
    MCalls Try.prog 118 [.ow 1000 gen 4 n, .p (.d (.v (.int .i64 ai))), .p (.d (.v (.int .i64 mi))), .p (.d (.v (.int .i64 bi))), .p (.fn (.func g) [] [])] [(1000, .own 27 4 n gen (rowFK x))]
      (fun rs M => rs = [] ∧ M = [(1000, .own 27 4 n gen (rowFK y))]) := by
  intro M
  induction M with
  | zero => intro x y a m b ai mi bi hM _ _ _ ham hmb; omega
  | succ M ih =>
  intro x y a m b ai mi bi hM ha' hm' hb' ham hmb hb sl sr hy
  subst ha' hm' hb' hy
  by_cases h1 : m = a + 1
  · have q : ((m : Int) - (a : Int) == 1) = true := by rw [beq_iff_eq]; omega
    refine mcalls_of_awp Try.func118 rfl (by decide +kernel) (by rw [Try.ntmps118]; simp) (fun l X h => by simp only [AL.look] at h; (repeat' split at h); all_goals first | omega | cases h) ?_; rw [Try.ntmps118]; simp only [frA]
    (repeat (first | refine j0 ?_ | refine q7 rfl ?_ | refine z7 rfl ?_ | refine x6 ?_ | (refine z5 fun K hK => ?_) | (refine j5 (by kernel_rfl) (by kernel_rfl) fun K hK => ?_) | ((first | refine q6 ?_ | refine z6 ?_ | ((first | refine z3 (hK _ ?_) | refine j4 (hK _ _ (z4 (by kernel_rfl)) ?_)); clear hK K)); (first | show AWP _ _ _ _ _ | ((try simp only [j6]); first | show loopQ _ _ _ _ _ _ | show cutQ _ _ _ _ | show AWP _ _ _ _ _))) | ((first | refine x7 [] rfl ?_ | refine j7 [] rfl ?_); simp (maxSteps := 2000000) (disch := omega) only [go_sem, seval, hd, cb, tnPK, tnMK, tnP1K, tnM1K, q]; (repeat (first | refine ⟨by omega, ?_⟩ | refine ⟨True.intro, ?_⟩)))))
    refine awp_loop (smAK key x n gen a m b g) (fun s => s.val.2 - s.val.1) ⟨(m, b), by simp, by simp only []; omega, by simp, fun k h1 h2 => by simp only [] at h2; omega, fun k h1 h2 => by simp only [] at h1; omega⟩ ?_ (fun s => ?_)
    · unfold smAK
      refine Weak.list ?_ ?_; (all_goals simp (disch := omega) only [AllF, AllL, q10, z10, j9, exists_eq_left', Option.some.injEq, go_sem, seval, hd, cb, tnPK, tnMK, tnP1K, tnM1K, q]); (all_goals (repeat' (with_reducible apply And.intro))); (all_goals try (first | exact q8 rfl | (refine x10 ?_; omega) | (refine q8 ?_; simp; done)))
    obtain ⟨⟨i, j⟩, hi, hij, hj, lo, hi2⟩ := s
    unfold smAK
    simp only [] at hi hij hj lo hi2
    by_cases h : i < j
    · have hf := halfK i j
      obtain ⟨d, hdd⟩ : ∃ d, d = (i + j) / 2 := ⟨_, rfl⟩
      rw [← hdd] at hf
      have r1 := rowF_atK x d
      have r2 := rowF_atK x a
      have cc := hc.call (x d) (x a)
      have cl := hc.lt (x d) (x a)
      generalize c (x d) (x a) = c0 at cc cl
      by_cases hlt : c0 < 0
      · (repeat (first | refine j0 ?_ | refine q7 rfl ?_ | refine z7 rfl ?_ | refine x6 ?_ | (refine z5 fun K hK => ?_) | (refine j5 (by kernel_rfl) (by kernel_rfl) fun K hK => ?_) | ((first | refine q6 ?_ | refine z6 ?_ | ((first | refine z3 (hK _ ?_) | refine j4 (hK _ _ (z4 (by kernel_rfl)) ?_)); clear hK K)); (first | show AWP _ _ _ _ _ | ((try simp only [j6]); first | show loopQ _ _ _ _ _ _ | show cutQ _ _ _ _ | show AWP _ _ _ _ _))) | ((first | refine z9 rfl rfl rfl ?_ | refine x9 rfl rfl rfl ?_); simp (maxSteps := 2000000) (disch := omega) only [go_sem, seval, hd, cb, tnPK, tnMK, tnP1K, tnM1K, hf, r1, r2]; (first | refine ⟨_, cc, ?_⟩)) | ((first | refine x7 [] rfl ?_ | refine j7 [] rfl ?_); simp (maxSteps := 2000000) (disch := omega) only [go_sem, seval, hd, cb, tnPK, tnMK, tnP1K, tnM1K, hf, r1, r2]; (repeat (first | refine ⟨by omega, ?_⟩ | refine ⟨True.intro, ?_⟩)))))
        refine ⟨⟨(d + 1, j), by simp only []; omega, by simp only []; omega, hj, fun k k1 k2 => ?_, hi2⟩, by simp only []; omega, ?_⟩
        · have := sr.le k1 (show k ≤ d by simp only [] at k2; omega) (by omega)
          have := cl.1 hlt
          omega
        refine Weak.list ?_ ?_; (all_goals simp (disch := omega) only [AllF, AllL, q10, z10, j9, exists_eq_left', Option.some.injEq, go_sem, seval, hd, cb, tnPK, tnMK, tnP1K, tnM1K, hf, r1, r2]); (all_goals (repeat' (with_reducible apply And.intro))); (all_goals try (first | exact q8 rfl | (refine x10 ?_; omega) | (refine q8 ?_; simp; done)))
      · (repeat (first | refine j0 ?_ | refine q7 rfl ?_ | refine z7 rfl ?_ | refine x6 ?_ | (refine z5 fun K hK => ?_) | (refine j5 (by kernel_rfl) (by kernel_rfl) fun K hK => ?_) | ((first | refine q6 ?_ | refine z6 ?_ | ((first | refine z3 (hK _ ?_) | refine j4 (hK _ _ (z4 (by kernel_rfl)) ?_)); clear hK K)); (first | show AWP _ _ _ _ _ | ((try simp only [j6]); first | show loopQ _ _ _ _ _ _ | show cutQ _ _ _ _ | show AWP _ _ _ _ _))) | ((first | refine z9 rfl rfl rfl ?_ | refine x9 rfl rfl rfl ?_); simp (maxSteps := 2000000) (disch := omega) only [go_sem, seval, hd, cb, tnPK, tnMK, tnP1K, tnM1K, hf, r1, r2]; (first | refine ⟨_, cc, ?_⟩)) | ((first | refine x7 [] rfl ?_ | refine j7 [] rfl ?_); simp (maxSteps := 2000000) (disch := omega) only [go_sem, seval, hd, cb, tnPK, tnMK, tnP1K, tnM1K, hf, r1, r2]; (repeat (first | refine ⟨by omega, ?_⟩ | refine ⟨True.intro, ?_⟩)))))
        refine ⟨⟨(i, d), hi, by simp only []; omega, by simp only []; omega, lo, fun k k1 k2 => ?_⟩, by simp only []; omega, ?_⟩
        · have := sr.le (show m ≤ d by omega) (show d ≤ k from k1) k2
          have : ¬ key (x d) < key (x a) := fun e => hlt (cl.2 e)
          omega
        refine Weak.list ?_ ?_; (all_goals simp (disch := omega) only [AllF, AllL, q10, z10, j9, exists_eq_left', Option.some.injEq, go_sem, seval, hd, cb, tnPK, tnMK, tnP1K, tnM1K, hf, r1, r2]); (all_goals (repeat' (with_reducible apply And.intro))); (all_goals try (first | exact q8 rfl | (refine x10 ?_; omega) | (refine q8 ?_; simp; done)))
    · have : i = j := by omega
      subst this
      (repeat (first | refine j0 ?_ | refine q7 rfl ?_ | refine z7 rfl ?_ | refine x6 ?_ | (refine z5 fun K hK => ?_) | (refine j5 (by kernel_rfl) (by kernel_rfl) fun K hK => ?_) | ((first | refine q6 ?_ | refine z6 ?_ | ((first | refine z3 (hK _ ?_) | refine j4 (hK _ _ (z4 (by kernel_rfl)) ?_)); clear hK K)); (first | show AWP _ _ _ _ _ | ((try simp only [j6]); first | show loopQ _ _ _ _ _ _ | show cutQ _ _ _ _ | show AWP _ _ _ _ _))) | ((first | refine x7 [] rfl ?_ | refine j7 [] rfl ?_); simp (maxSteps := 2000000) (disch := omega) only [go_sem, seval, hd, cb, tnPK, tnMK, tnP1K, tnM1K]; (repeat (first | refine ⟨by omega, ?_⟩ | refine ⟨True.intro, ?_⟩)))))
      refine awp_loop (smBK key x n gen a i b) (fun s => i - s.val) ⟨a, by omega, by omega, by rw [moveUp_zero]; exact SE.refl _ _ _⟩ ?_ (fun s => ?_)
      · unfold smBK
        refine Weak.list ?_ ?_; (all_goals simp (disch := omega) only [AllF, AllL, q10, z10, j9, exists_eq_left', Option.some.injEq, go_sem, seval, hd, cb, tnPK, tnMK, tnP1K, tnM1K, moveUp_zero]); (all_goals (repeat' (with_reducible apply And.intro))); (all_goals try (first | exact q8 rfl | (refine x10 ?_; omega) | (refine q8 ?_; simp; done)))
      obtain ⟨k, hk, hk2, hse⟩ := s
      unfold smBK
      by_cases hki : k + 1 < i
      · have r1 := rowF_atK (moveUp x a k) (k + 1)
        have r2 := rowF_atK (moveUp x a k) k
        obtain ⟨m1, m2⟩ := moveUp_at x a k
        have hne : key (moveUp x a k k) ≠ key (moveUp x a k (k + 1)) := by rw [m1, m2]; have := lo (k + 1) (by omega) hki; omega
        (repeat (first | refine j0 ?_ | refine q7 rfl ?_ | refine z7 rfl ?_ | refine x6 ?_ | (refine z5 fun K hK => ?_) | (refine j5 (by kernel_rfl) (by kernel_rfl) fun K hK => ?_) | ((first | refine q6 ?_ | refine z6 ?_ | ((first | refine z3 (hK _ ?_) | refine j4 (hK _ _ (z4 (by kernel_rfl)) ?_)); clear hK K)); (first | show AWP _ _ _ _ _ | ((try simp only [j6]); first | show loopQ _ _ _ _ _ _ | show cutQ _ _ _ _ | show AWP _ _ _ _ _))) | ((first | refine x7 [] rfl ?_ | refine j7 [] rfl ?_); simp (maxSteps := 2000000) (disch := omega) only [go_sem, seval, hd, cb, tnPK, tnMK, tnP1K, tnM1K, r1, r2]; (repeat (first | refine ⟨by omega, ?_⟩ | refine ⟨True.intro, ?_⟩)))))
        refine ⟨⟨k + 1, by omega, by omega, ?_⟩, by simp only []; omega, ?_⟩
        · rw [← show swap2 (moveUp x a k) k = moveUp x a (k + 1) from funext (moveUp_succ x hk)]
          exact hse.trans ((SE.swap hne).widen hk (by omega) (by omega))
        refine Weak.list ?_ ?_; (all_goals simp (disch := omega) only [AllF, AllL, q10, z10, j9, exists_eq_left', Option.some.injEq, go_sem, seval, hd, cb, tnPK, tnMK, tnP1K, tnM1K, r1, r2]); (all_goals (repeat' (with_reducible apply And.intro))); (all_goals try (first | exact q8 rfl | (refine x10 ?_; omega) | (refine q8 ?_; simp; done)))
        exact lle_own rfl rfl (fun q _ => (putEl_twoK (moveUp x a k) k (k + 1) (moveUp x a k (k + 1)) (moveUp x a k k) q).trans (by
          rw [← show swap2 (moveUp x a k) k = moveUp x a (k + 1) from funext (moveUp_succ x hk)]
          refine congrArg cb ?_
          unfold swap2
          by_cases e1 : q = k
          · simp only [e1, if_true, show (k = k + 1) = False from by simp, if_false]
          · simp only [e1, if_false]))
      · have : k = i - 1 := by omega
        subst this
        (repeat (first | refine j0 ?_ | refine q7 rfl ?_ | refine z7 rfl ?_ | refine x6 ?_ | (refine z5 fun K hK => ?_) | (refine j5 (by kernel_rfl) (by kernel_rfl) fun K hK => ?_) | ((first | refine q6 ?_ | refine z6 ?_ | ((first | refine z3 (hK _ ?_) | refine j4 (hK _ _ (z4 (by kernel_rfl)) ?_)); clear hK K)); (first | show AWP _ _ _ _ _ | ((try simp only [j6]); first | show loopQ _ _ _ _ _ _ | show cutQ _ _ _ _ | show AWP _ _ _ _ _))) | ((first | refine x7 [] rfl ?_ | refine j7 [] rfl ?_); simp (maxSteps := 2000000) (disch := omega) only [go_sem, seval, hd, cb, tnPK, tnMK, tnP1K, tnM1K]; (repeat (first | refine ⟨by omega, ?_⟩ | refine ⟨True.intro, ?_⟩)))))
        have ey := funext (stab_eq hse (srt_up (by omega) hj (by rw [← h1]; exact sr) (fun k k1 k2 => lo k (by omega) k2) hi2))
        rw [← ey]
        (first | (refine z3 (hK _ ?_); exact (retM_void rfl rfl ⟨rfl, rfl⟩).1) | (refine z6 ?_; exact (retM_void rfl rfl ⟨rfl, rfl⟩).1) | (refine q6 ?_; exact (retM_void rfl rfl ⟨rfl, rfl⟩).1) | (refine j8 ?_; exact (retM_void rfl rfl ⟨rfl, rfl⟩).2) | exact (retM_void rfl rfl ⟨rfl, rfl⟩).1)
  · have q : ((m : Int) - (a : Int) == 1) = false := by rw [beq_eq_false_iff_ne]; omega
    by_cases h2 : b = m + 1
    · have q2 : ((b : Int) - (m : Int) == 1) = true := by rw [beq_iff_eq]; omega
      refine mcalls_of_awp Try.func118 rfl (by decide +kernel) (by rw [Try.ntmps118]; simp) (fun l X h => by simp only [AL.look] at h; (repeat' split at h); all_goals first | omega | cases h) ?_; rw [Try.ntmps118]; simp only [frA]
      (repeat (first | refine j0 ?_ | refine q7 rfl ?_ | refine z7 rfl ?_ | refine x6 ?_ | (refine z5 fun K hK => ?_) | (refine j5 (by kernel_rfl) (by kernel_rfl) fun K hK => ?_) | ((first | refine q6 ?_ | refine z6 ?_ | ((first | refine z3 (hK _ ?_) | refine j4 (hK _ _ (z4 (by kernel_rfl)) ?_)); clear hK K)); (first | show AWP _ _ _ _ _ | ((try simp only [j6]); first | show loopQ _ _ _ _ _ _ | show cutQ _ _ _ _ | show AWP _ _ _ _ _))) | ((first | refine x7 [] rfl ?_ | refine j7 [] rfl ?_); simp (maxSteps := 2000000) (disch := omega) only [go_sem, seval, hd, cb, tnPK, tnMK, tnP1K, tnM1K, q, q2]; (repeat (first | refine ⟨by omega, ?_⟩ | refine ⟨True.intro, ?_⟩)))))
      refine awp_loop (smCK key x n gen a m b g) (fun s => s.val.2 - s.val.1) ⟨(a, m), by simp, by simp only []; omega, by simp, fun k h1 h2 => by simp only [] at h2; omega, fun k h1 h2 => by simp only [] at h1; omega⟩ ?_ (fun s => ?_)
      · unfold smCK
        refine Weak.list ?_ ?_; (all_goals simp (disch := omega) only [AllF, AllL, q10, z10, j9, exists_eq_left', Option.some.injEq, go_sem, seval, hd, cb, tnPK, tnMK, tnP1K, tnM1K, q, q2]); (all_goals (repeat' (with_reducible apply And.intro))); (all_goals try (first | exact q8 rfl | (refine x10 ?_; omega) | (refine q8 ?_; simp; done)))
      obtain ⟨⟨i, j⟩, hi, hij, hj, lo, hi2⟩ := s
      unfold smCK
      simp only [] at hi hij hj lo hi2
      by_cases h : i < j
      · have hf := halfK i j
        obtain ⟨d, hdd⟩ : ∃ d, d = (i + j) / 2 := ⟨_, rfl⟩
        rw [← hdd] at hf
        have r1 := rowF_atK x d
        have r2 := rowF_atK x m
        have cc := hc.call (x m) (x d)
        have cl := hc.lt (x m) (x d)
        generalize c (x m) (x d) = c0 at cc cl
        by_cases hlt : c0 < 0
        · (repeat (first | refine j0 ?_ | refine q7 rfl ?_ | refine z7 rfl ?_ | refine x6 ?_ | (refine z5 fun K hK => ?_) | (refine j5 (by kernel_rfl) (by kernel_rfl) fun K hK => ?_) | ((first | refine q6 ?_ | refine z6 ?_ | ((first | refine z3 (hK _ ?_) | refine j4 (hK _ _ (z4 (by kernel_rfl)) ?_)); clear hK K)); (first | show AWP _ _ _ _ _ | ((try simp only [j6]); first | show loopQ _ _ _ _ _ _ | show cutQ _ _ _ _ | show AWP _ _ _ _ _))) | ((first | refine z9 rfl rfl rfl ?_ | refine x9 rfl rfl rfl ?_); simp (maxSteps := 2000000) (disch := omega) only [go_sem, seval, hd, cb, tnPK, tnMK, tnP1K, tnM1K, hf, r1, r2]; (first | refine ⟨_, cc, ?_⟩)) | ((first | refine x7 [] rfl ?_ | refine j7 [] rfl ?_); simp (maxSteps := 2000000) (disch := omega) only [go_sem, seval, hd, cb, tnPK, tnMK, tnP1K, tnM1K, hf, r1, r2]; (repeat (first | refine ⟨by omega, ?_⟩ | refine ⟨True.intro, ?_⟩)))))
          refine ⟨⟨(i, d), hi, by simp only []; omega, by simp only []; omega, lo, fun k k1 k2 => ?_⟩, by simp only []; omega, ?_⟩
          · have := sl.le (show a ≤ d by omega) (show d ≤ k from k1) k2
            have := cl.1 hlt
            omega
          refine Weak.list ?_ ?_; (all_goals simp (disch := omega) only [AllF, AllL, q10, z10, j9, exists_eq_left', Option.some.injEq, go_sem, seval, hd, cb, tnPK, tnMK, tnP1K, tnM1K, hf, r1, r2]); (all_goals (repeat' (with_reducible apply And.intro))); (all_goals try (first | exact q8 rfl | (refine x10 ?_; omega) | (refine q8 ?_; simp; done)))
        · (repeat (first | refine j0 ?_ | refine q7 rfl ?_ | refine z7 rfl ?_ | refine x6 ?_ | (refine z5 fun K hK => ?_) | (refine j5 (by kernel_rfl) (by kernel_rfl) fun K hK => ?_) | ((first | refine q6 ?_ | refine z6 ?_ | ((first | refine z3 (hK _ ?_) | refine j4 (hK _ _ (z4 (by kernel_rfl)) ?_)); clear hK K)); (first | show AWP _ _ _ _ _ | ((try simp only [j6]); first | show loopQ _ _ _ _ _ _ | show cutQ _ _ _ _ | show AWP _ _ _ _ _))) | ((first | refine z9 rfl rfl rfl ?_ | refine x9 rfl rfl rfl ?_); simp (maxSteps := 2000000) (disch := omega) only [go_sem, seval, hd, cb, tnPK, tnMK, tnP1K, tnM1K, hf, r1, r2]; (first | refine ⟨_, cc, ?_⟩)) | ((first | refine x7 [] rfl ?_ | refine j7 [] rfl ?_); simp (maxSteps := 2000000) (disch := omega) only [go_sem, seval, hd, cb, tnPK, tnMK, tnP1K, tnM1K, hf, r1, r2]; (repeat (first | refine ⟨by omega, ?_⟩ | refine ⟨True.intro, ?_⟩)))))
          refine ⟨⟨(d + 1, j), by simp only []; omega, by simp only []; omega, hj, fun k k1 k2 => ?_, hi2⟩, by simp only []; omega, ?_⟩
          · have := sl.le k1 (show k ≤ d by simp only [] at k2; omega) (by omega)
            have : ¬ key (x m) < key (x d) := fun e => hlt (cl.2 e)
            omega
          refine Weak.list ?_ ?_; (all_goals simp (disch := omega) only [AllF, AllL, q10, z10, j9, exists_eq_left', Option.some.injEq, go_sem, seval, hd, cb, tnPK, tnMK, tnP1K, tnM1K, hf, r1, r2]); (all_goals (repeat' (with_reducible apply And.intro))); (all_goals try (first | exact q8 rfl | (refine x10 ?_; omega) | (refine q8 ?_; simp; done)))
      · have : i = j := by omega
        subst this
        (repeat (first | refine j0 ?_ | refine q7 rfl ?_ | refine z7 rfl ?_ | refine x6 ?_ | (refine z5 fun K hK => ?_) | (refine j5 (by kernel_rfl) (by kernel_rfl) fun K hK => ?_) | ((first | refine q6 ?_ | refine z6 ?_ | ((first | refine z3 (hK _ ?_) | refine j4 (hK _ _ (z4 (by kernel_rfl)) ?_)); clear hK K)); (first | show AWP _ _ _ _ _ | ((try simp only [j6]); first | show loopQ _ _ _ _ _ _ | show cutQ _ _ _ _ | show AWP _ _ _ _ _))) | ((first | refine x7 [] rfl ?_ | refine j7 [] rfl ?_); simp (maxSteps := 2000000) (disch := omega) only [go_sem, seval, hd, cb, tnPK, tnMK, tnP1K, tnM1K]; (repeat (first | refine ⟨by omega, ?_⟩ | refine ⟨True.intro, ?_⟩)))))
        refine awp_loop (smDK key x n gen a i m b) (fun s => s.val) ⟨m, by omega, by omega, by rw [moveDown_zero]; exact SE.refl _ _ _⟩ ?_ (fun s => ?_)
        · unfold smDK
          refine Weak.list ?_ ?_; (all_goals simp (disch := omega) only [AllF, AllL, q10, z10, j9, exists_eq_left', Option.some.injEq, go_sem, seval, hd, cb, tnPK, tnMK, tnP1K, tnM1K, moveDown_zero]); (all_goals (repeat' (with_reducible apply And.intro))); (all_goals try (first | exact q8 rfl | (refine x10 ?_; omega) | (refine q8 ?_; simp; done)))
        obtain ⟨k, hk, hk2, hse⟩ := s
        unfold smDK
        by_cases hki : i < k
        · obtain ⟨k, rfl⟩ : ∃ k', k = k' + 1 := ⟨k - 1, by omega⟩
          have r1 := rowF_atK (moveDown x m (k + 1)) (k + 1)
          have r2 := rowF_atK (moveDown x m (k + 1)) k
          obtain ⟨m1, m2⟩ := moveDown_at x (show k < m by omega)
          have hne : key (moveDown x m (k + 1) k) ≠ key (moveDown x m (k + 1) (k + 1)) := by rw [m1, m2]; have := hi2 k (by omega) (by omega); omega
          (repeat (first | refine j0 ?_ | refine q7 rfl ?_ | refine z7 rfl ?_ | refine x6 ?_ | (refine z5 fun K hK => ?_) | (refine j5 (by kernel_rfl) (by kernel_rfl) fun K hK => ?_) | ((first | refine q6 ?_ | refine z6 ?_ | ((first | refine z3 (hK _ ?_) | refine j4 (hK _ _ (z4 (by kernel_rfl)) ?_)); clear hK K)); (first | show AWP _ _ _ _ _ | ((try simp only [j6]); first | show loopQ _ _ _ _ _ _ | show cutQ _ _ _ _ | show AWP _ _ _ _ _))) | ((first | refine x7 [] rfl ?_ | refine j7 [] rfl ?_); simp (maxSteps := 2000000) (disch := omega) only [go_sem, seval, hd, cb, tnPK, tnMK, tnP1K, tnM1K, r1, r2]; (repeat (first | refine ⟨by omega, ?_⟩ | refine ⟨True.intro, ?_⟩)))))
          refine ⟨⟨k, by omega, by omega, ?_⟩, by simp only []; omega, ?_⟩
          · rw [← show swap2 (moveDown x m (k + 1)) k = moveDown x m k from funext (moveDown_succ x (by omega))]
            exact hse.trans ((SE.swap hne).widen (by omega) (by omega) (by omega))
          refine Weak.list ?_ ?_; (all_goals simp (disch := omega) only [AllF, AllL, q10, z10, j9, exists_eq_left', Option.some.injEq, go_sem, seval, hd, cb, tnPK, tnMK, tnP1K, tnM1K, r1, r2]); (all_goals (repeat' (with_reducible apply And.intro))); (all_goals try (first | exact q8 rfl | (refine x10 ?_; omega) | (refine q8 ?_; simp; done)))
          exact lle_own rfl rfl (fun q _ => (putEl_twoK (moveDown x m (k + 1)) (k + 1) k (moveDown x m (k + 1) k) (moveDown x m (k + 1) (k + 1)) q).trans (by
            rw [← show swap2 (moveDown x m (k + 1)) k = moveDown x m k from funext (moveDown_succ x (by omega))]
            rfl))
        · have : k = i := by omega
          subst this
          (repeat (first | refine j0 ?_ | refine q7 rfl ?_ | refine z7 rfl ?_ | refine x6 ?_ | (refine z5 fun K hK => ?_) | (refine j5 (by kernel_rfl) (by kernel_rfl) fun K hK => ?_) | ((first | refine q6 ?_ | refine z6 ?_ | ((first | refine z3 (hK _ ?_) | refine j4 (hK _ _ (z4 (by kernel_rfl)) ?_)); clear hK K)); (first | show AWP _ _ _ _ _ | ((try simp only [j6]); first | show loopQ _ _ _ _ _ _ | show cutQ _ _ _ _ | show AWP _ _ _ _ _))) | ((first | refine x7 [] rfl ?_ | refine j7 [] rfl ?_); simp (maxSteps := 2000000) (disch := omega) only [go_sem, seval, hd, cb, tnPK, tnMK, tnP1K, tnM1K]; (repeat (first | refine ⟨by omega, ?_⟩ | refine ⟨True.intro, ?_⟩)))))
          have ey := funext (stab_eq hse (by rw [h2]; exact srt_down hi (by omega) sl lo hi2))
          rw [← ey]
          (first | (refine z3 (hK _ ?_); exact (retM_void rfl rfl ⟨rfl, rfl⟩).1) | (refine z6 ?_; exact (retM_void rfl rfl ⟨rfl, rfl⟩).1) | (refine q6 ?_; exact (retM_void rfl rfl ⟨rfl, rfl⟩).1) | (refine j8 ?_; exact (retM_void rfl rfl ⟨rfl, rfl⟩).2) | exact (retM_void rfl rfl ⟨rfl, rfl⟩).1)
    · have q2 : ((b : Int) - (m : Int) == 1) = false := by rw [beq_eq_false_iff_ne]; omega
      have hf := halfK a b
      obtain ⟨mid, hmid⟩ : ∃ d, d = (a + b) / 2 := ⟨_, rfl⟩
      rw [← hmid] at hf
      obtain ⟨N, hN⟩ : ∃ N, N = mid + m := ⟨_, rfl⟩
      have hN2 : (mid : Int) + (m : Int) = (N : Int) := by omega
      have mp := fun start => merge_parts (start := start) ham hmb hmid hN sl sr
      obtain ⟨s0, hs0⟩ : ∃ s0, s0 = if m > mid then N - b else a := ⟨_, rfl⟩
      obtain ⟨r0, hr0⟩ : ∃ r0, r0 = if m > mid then mid else m := ⟨_, rfl⟩
      rw [← hs0, ← hr0] at mp
      have hg : s0 ≤ r0 ∧ r0 ≤ m ∧ a ≤ s0 ∧ r0 + s0 = N - (if m > mid then (b - mid) else (mid - a)) := by
        split at hs0 <;> rename_i hh <;> simp only [hh, if_true, if_false] at hr0 ⊢ <;> omega
      by_cases hcond : m > mid
      all_goals
        first | rw [if_pos hcond] at hs0 hr0 hg | rw [if_neg hcond] at hs0 hr0 hg
        refine mcalls_of_awp Try.func118 rfl (by decide +kernel) (by rw [Try.ntmps118]; simp) (fun l X h => by simp only [AL.look] at h; (repeat' split at h); all_goals first | omega | cases h) ?_; rw [Try.ntmps118]; simp only [frA]
        (repeat (first | refine j0 ?_ | refine q7 rfl ?_ | refine z7 rfl ?_ | refine x6 ?_ | (refine z5 fun K hK => ?_) | (refine j5 (by kernel_rfl) (by kernel_rfl) fun K hK => ?_) | ((first | refine q6 ?_ | refine z6 ?_ | ((first | refine z3 (hK _ ?_) | refine j4 (hK _ _ (z4 (by kernel_rfl)) ?_)); clear hK K)); (first | show AWP _ _ _ _ _ | ((try simp only [j6]); first | show loopQ _ _ _ _ _ _ | show cutQ _ _ _ _ | show AWP _ _ _ _ _))) | ((first | refine x7 [] rfl ?_ | refine j7 [] rfl ?_); simp (maxSteps := 2000000) (disch := omega) only [go_sem, seval, hd, cb, tnPK, tnMK, tnP1K, tnM1K, q, q2, hf, hN2]; (repeat (first | refine ⟨by omega, ?_⟩ | refine ⟨True.intro, ?_⟩)))))
        refine awp_loop (smEK key x n gen a m b mid N s0 r0 g) (fun s => s.val.2 - s.val.1) ⟨(s0, r0), by simp, by simp only []; omega, by simp, fun k h1 h2 => by simp only [] at h2; omega, fun k h1 h2 => by simp only [] at h1; omega⟩ ?_ (fun s => ?_)
        · unfold smEK
          refine Weak.list ?_ ?_; (all_goals simp (disch := omega) only [AllF, AllL, q10, z10, j9, exists_eq_left', Option.some.injEq, go_sem, seval, hd, cb, tnPK, tnMK, tnP1K, tnM1K, q, q2, hf, hN2]); (all_goals (repeat' (with_reducible apply And.intro))); (all_goals try (first | exact q8 rfl | (refine x10 ?_; omega) | (refine q8 ?_; simp; done)))
        obtain ⟨⟨start, r⟩, hi, hij, hj, lo, hi2⟩ := s
        unfold smEK
        simp only [] at hi hij hj lo hi2
        by_cases h : start < r
        · have hf := halfK start r
          obtain ⟨d, hdd⟩ : ∃ d, d = (start + r) / 2 := ⟨_, rfl⟩
          rw [← hdd] at hf
          have r1 := rowF_atK x (N - 1 - d)
          have r2 := rowF_atK x d
          have cc := hc.call (x (N - 1 - d)) (x d)
          have cl := hc.lt (x (N - 1 - d)) (x d)
          generalize c (x (N - 1 - d)) (x d) = c0 at cc cl
          by_cases hlt : c0 < 0
          · (repeat (first | refine j0 ?_ | refine q7 rfl ?_ | refine z7 rfl ?_ | refine x6 ?_ | (refine z5 fun K hK => ?_) | (refine j5 (by kernel_rfl) (by kernel_rfl) fun K hK => ?_) | ((first | refine q6 ?_ | refine z6 ?_ | ((first | refine z3 (hK _ ?_) | refine j4 (hK _ _ (z4 (by kernel_rfl)) ?_)); clear hK K)); (first | show AWP _ _ _ _ _ | ((try simp only [j6]); first | show loopQ _ _ _ _ _ _ | show cutQ _ _ _ _ | show AWP _ _ _ _ _))) | ((first | refine z9 rfl rfl rfl ?_ | refine x9 rfl rfl rfl ?_); simp (maxSteps := 2000000) (disch := omega) only [go_sem, seval, hd, cb, tnPK, tnMK, tnP1K, tnM1K, hf, r1, r2]; (first | refine ⟨_, cc, ?_⟩)) | ((first | refine x7 [] rfl ?_ | refine j7 [] rfl ?_); simp (maxSteps := 2000000) (disch := omega) only [go_sem, seval, hd, cb, tnPK, tnMK, tnP1K, tnM1K, hf, r1, r2]; (repeat (first | refine ⟨by omega, ?_⟩ | refine ⟨True.intro, ?_⟩)))))
            refine ⟨⟨(start, d), hi, by simp only []; omega, by simp only []; omega, lo, fun k k1 k2 => ?_⟩, by simp only []; omega, ?_⟩
            · have := sl.le (show a ≤ d by omega) (show d ≤ k from k1) (by omega)
              have := sr.le (show m ≤ N - 1 - k by omega) (show N - 1 - k ≤ N - 1 - d by simp only [] at k1; omega) (by omega)
              have := cl.1 hlt
              omega
            refine Weak.list ?_ ?_; (all_goals simp (disch := omega) only [AllF, AllL, q10, z10, j9, exists_eq_left', Option.some.injEq, go_sem, seval, hd, cb, tnPK, tnMK, tnP1K, tnM1K, hf, r1, r2]); (all_goals (repeat' (with_reducible apply And.intro))); (all_goals try (first | exact q8 rfl | (refine x10 ?_; omega) | (refine q8 ?_; simp; done)))
          · (repeat (first | refine j0 ?_ | refine q7 rfl ?_ | refine z7 rfl ?_ | refine x6 ?_ | (refine z5 fun K hK => ?_) | (refine j5 (by kernel_rfl) (by kernel_rfl) fun K hK => ?_) | ((first | refine q6 ?_ | refine z6 ?_ | ((first | refine z3 (hK _ ?_) | refine j4 (hK _ _ (z4 (by kernel_rfl)) ?_)); clear hK K)); (first | show AWP _ _ _ _ _ | ((try simp only [j6]); first | show loopQ _ _ _ _ _ _ | show cutQ _ _ _ _ | show AWP _ _ _ _ _))) | ((first | refine z9 rfl rfl rfl ?_ | refine x9 rfl rfl rfl ?_); simp (maxSteps := 2000000) (disch := omega) only [go_sem, seval, hd, cb, tnPK, tnMK, tnP1K, tnM1K, hf, r1, r2]; (first | refine ⟨_, cc, ?_⟩)) | ((first | refine x7 [] rfl ?_ | refine j7 [] rfl ?_); simp (maxSteps := 2000000) (disch := omega) only [go_sem, seval, hd, cb, tnPK, tnMK, tnP1K, tnM1K, hf, r1, r2]; (repeat (first | refine ⟨by omega, ?_⟩ | refine ⟨True.intro, ?_⟩)))))
            refine ⟨⟨(d + 1, r), by simp only []; omega, by simp only []; omega, hj, fun k k1 k2 => ?_, hi2⟩, by simp only []; omega, ?_⟩
            · have := sl.le (show a ≤ k by omega) (show k ≤ d by simp only [] at k2; omega) (by omega)
              have := sr.le (show m ≤ N - 1 - d by omega) (show N - 1 - d ≤ N - 1 - k by simp only [] at k2; omega) (by omega)
              have : ¬ key (x (N - 1 - d)) < key (x d) := fun e => hlt (cl.2 e)
              omega
            refine Weak.list ?_ ?_; (all_goals simp (disch := omega) only [AllF, AllL, q10, z10, j9, exists_eq_left', Option.some.injEq, go_sem, seval, hd, cb, tnPK, tnMK, tnP1K, tnM1K, hf, r1, r2]); (all_goals (repeat' (with_reducible apply And.intro))); (all_goals try (first | exact q8 rfl | (refine x10 ?_; omega) | (refine q8 ?_; simp; done)))
        · have : start = r := by omega
          subst this
          obtain ⟨g1, g2, g3, g4, g5, g6, mse, m1, m2, m3, m4, m5⟩ := mp start hi hj lo hi2
          have eX : ¬ (start < m ∧ m < N - start) → rowFK x = rowFK (rot x start m (N - start)) := fun hh => by rw [rot_none x g2 g3 (by omega)]
          have rc := fun h1 h2 => rotate_cK x n gen start m (N - start) start m ((N : Int) - (start : Int)) (.fn (.func g) [] []) rfl rfl (by omega) h1 h2 (by omega) hn
          generalize rot x start m (N - start) = X at mse m1 m2 m3 m4 m5 eX rc
          have sX : Srt key a b X → True := fun _ => trivial
          have il := fun h1 h2 => ih X (stab key a mid X) a start mid a start mid (by omega) rfl rfl rfl h1 h2 (by omega) m1 m2 rfl
          have hl0 : ¬ (a < start ∧ start < mid) → rowFK X = rowFK (stab key a mid X) := fun hh => by
            rw [stab_idK]
            rcases Nat.lt_or_ge a start with h1 | h1
            · have : start = mid := by omega
              rw [← this]; exact m1
            · have : start = a := by omega
              rw [← this]; exact m2
          have se1 := stab_se (key := key) a mid X
          have so1 := stab_srt (key := key) a mid X
          generalize stab key a mid X = Y at il hl0 se1 so1
          have n1 : Srt key mid (N - start) Y := fun p q h1 h2 h3 => by rw [se1.out p (by omega), se1.out q (by omega)]; exact m3 p q h1 h2 h3
          have n2 : Srt key (N - start) b Y := fun p q h1 h2 h3 => by rw [se1.out p (by omega), se1.out q (by omega)]; exact m4 p q h1 h2 h3
          have ir := fun h1 h2 => ih Y (stab key mid b Y) mid (N - start) b mid ((N : Int) - (start : Int)) b (by omega) rfl (by omega) rfl h1 h2 hb n1 n2 rfl
          have hr1 : ¬ (mid < N - start ∧ N - start < b) → rowFK Y = rowFK (stab key mid b Y) := fun hh => by
            rw [stab_idK]
            rcases Nat.lt_or_ge mid (N - start) with h1 | h1
            · have : N - start = b := by omega
              rw [← this]; exact n1
            · have : N - start = mid := by omega
              rw [← this]; exact n2
          have se2 := stab_se (key := key) mid b Y
          have so2 := stab_srt (key := key) mid b Y
          generalize stab key mid b Y = Z at ir hr1 se2 so2
          obtain ⟨fs, fo⟩ := merge_halves (key := key) (a := a) (mid := mid) (b := b) (by omega) (by omega) se1 so1 m5 se2 so2
          have eZ := funext (stab_eq ((mse.widen g1 (by omega) g4).trans fs) fo)
          rw [← eZ]
          by_cases c1 : start < m ∧ m < N - start
          all_goals by_cases c2 : a < start ∧ start < mid
          all_goals by_cases c3 : mid < N - start ∧ N - start < b
          all_goals (try (exfalso; omega))
          all_goals
            (repeat ((fail_if_success (show AWP _ _ (.region 41 _ _) _ _)); first | refine j0 ?_ | refine q7 rfl ?_ | refine z7 rfl ?_ | refine x6 ?_ | (refine z5 fun K hK => ?_) | (refine j5 (by kernel_rfl) (by kernel_rfl) fun K hK => ?_) | ((first | refine q6 ?_ | refine z6 ?_ | ((first | refine z3 (hK _ ?_) | refine j4 (hK _ _ (z4 (by kernel_rfl)) ?_)); clear hK K)); (first | show AWP _ _ _ _ _ | ((try simp only [j6]); first | show loopQ _ _ _ _ _ _ | show cutQ _ _ _ _ | show AWP _ _ _ _ _))) | ((first | refine x7 [] rfl ?_ | refine j7 [] rfl ?_); simp (maxSteps := 2000000) (disch := omega) only [go_sem, seval, hd, cb, tnPK, tnMK, tnP1K, tnM1K]; (repeat (first | refine ⟨by omega, ?_⟩ | refine ⟨True.intro, ?_⟩)))))
            (try
              (refine walkS_cons _ (step_mcall [(1000, 1000)] rfl rfl rfl rfl rfl rfl (rc c1.1 c1.2) rfl (namesOK_of (by repeat (first | exact trivial | refine ⟨rfl, ?_⟩)) (by kernel_rfl))) ?_); simp (maxSteps := 2000000) (disch := omega) only [go_sem, seval, hd, cb, tnPK, tnMK, tnP1K, tnM1K]
              (repeat ((fail_if_success (show AWP _ _ (.region 41 _ _) _ _)); first | refine j0 ?_ | refine q7 rfl ?_ | refine z7 rfl ?_ | refine x6 ?_ | (refine z5 fun K hK => ?_) | (refine j5 (by kernel_rfl) (by kernel_rfl) fun K hK => ?_) | ((first | refine q6 ?_ | refine z6 ?_ | ((first | refine z3 (hK _ ?_) | refine j4 (hK _ _ (z4 (by kernel_rfl)) ?_)); clear hK K)); (first | show AWP _ _ _ _ _ | ((try simp only [j6]); first | show loopQ _ _ _ _ _ _ | show cutQ _ _ _ _ | show AWP _ _ _ _ _))) | ((first | refine x7 [] rfl ?_ | refine j7 [] rfl ?_); simp (maxSteps := 2000000) (disch := omega) only [go_sem, seval, hd, cb, tnPK, tnMK, tnP1K, tnM1K]; (repeat (first | refine ⟨by omega, ?_⟩ | refine ⟨True.intro, ?_⟩)))))
              )
            (try rw [eX c1])
            (repeat ((fail_if_success (show AWP _ _ (.region 43 _ _) _ _)); first | refine j0 ?_ | refine q7 rfl ?_ | refine z7 rfl ?_ | refine x6 ?_ | (refine z5 fun K hK => ?_) | (refine j5 (by kernel_rfl) (by kernel_rfl) fun K hK => ?_) | ((first | refine q6 ?_ | refine z6 ?_ | ((first | refine z3 (hK _ ?_) | refine j4 (hK _ _ (z4 (by kernel_rfl)) ?_)); clear hK K)); (first | show AWP _ _ _ _ _ | ((try simp only [j6]); first | show loopQ _ _ _ _ _ _ | show cutQ _ _ _ _ | show AWP _ _ _ _ _))) | ((first | refine x7 [] rfl ?_ | refine j7 [] rfl ?_); simp (maxSteps := 2000000) (disch := omega) only [go_sem, seval, hd, cb, tnPK, tnMK, tnP1K, tnM1K]; (repeat (first | refine ⟨by omega, ?_⟩ | refine ⟨True.intro, ?_⟩)))))
            (try
              (refine walkS_cons _ (step_mcall [(1000, 1000)] rfl rfl rfl rfl rfl rfl (il c2.1 c2.2) rfl (namesOK_of (by repeat (first | exact trivial | refine ⟨rfl, ?_⟩)) (by kernel_rfl))) ?_); simp (maxSteps := 2000000) (disch := omega) only [go_sem, seval, hd, cb, tnPK, tnMK, tnP1K, tnM1K]
              (repeat ((fail_if_success (show AWP _ _ (.region 43 _ _) _ _)); first | refine j0 ?_ | refine q7 rfl ?_ | refine z7 rfl ?_ | refine x6 ?_ | (refine z5 fun K hK => ?_) | (refine j5 (by kernel_rfl) (by kernel_rfl) fun K hK => ?_) | ((first | refine q6 ?_ | refine z6 ?_ | ((first | refine z3 (hK _ ?_) | refine j4 (hK _ _ (z4 (by kernel_rfl)) ?_)); clear hK K)); (first | show AWP _ _ _ _ _ | ((try simp only [j6]); first | show loopQ _ _ _ _ _ _ | show cutQ _ _ _ _ | show AWP _ _ _ _ _))) | ((first | refine x7 [] rfl ?_ | refine j7 [] rfl ?_); simp (maxSteps := 2000000) (disch := omega) only [go_sem, seval, hd, cb, tnPK, tnMK, tnP1K, tnM1K]; (repeat (first | refine ⟨by omega, ?_⟩ | refine ⟨True.intro, ?_⟩)))))
              )
            (try rw [hl0 c2])
            (repeat (first | refine j0 ?_ | refine q7 rfl ?_ | refine z7 rfl ?_ | refine x6 ?_ | (refine z5 fun K hK => ?_) | (refine j5 (by kernel_rfl) (by kernel_rfl) fun K hK => ?_) | ((first | refine q6 ?_ | refine z6 ?_ | ((first | refine z3 (hK _ ?_) | refine j4 (hK _ _ (z4 (by kernel_rfl)) ?_)); clear hK K)); (first | show AWP _ _ _ _ _ | ((try simp only [j6]); first | show loopQ _ _ _ _ _ _ | show cutQ _ _ _ _ | show AWP _ _ _ _ _))) | ((first | refine x7 [] rfl ?_ | refine j7 [] rfl ?_); simp (maxSteps := 2000000) (disch := omega) only [go_sem, seval, hd, cb, tnPK, tnMK, tnP1K, tnM1K]; (repeat (first | refine ⟨by omega, ?_⟩ | refine ⟨True.intro, ?_⟩)))))
            (try
              (refine walkS_cons _ (step_mcall [(1000, 1000)] rfl rfl rfl rfl rfl rfl (ir c3.1 c3.2) rfl (namesOK_of (by repeat (first | exact trivial | refine ⟨rfl, ?_⟩)) (by kernel_rfl))) ?_); simp (maxSteps := 2000000) (disch := omega) only [go_sem, seval, hd, cb, tnPK, tnMK, tnP1K, tnM1K]
              )
            (try rw [hr1 c3])
            (try
              (repeat (first | refine j0 ?_ | refine q7 rfl ?_ | refine z7 rfl ?_ | refine x6 ?_ | (refine z5 fun K hK => ?_) | (refine j5 (by kernel_rfl) (by kernel_rfl) fun K hK => ?_) | ((first | refine q6 ?_ | refine z6 ?_ | ((first | refine z3 (hK _ ?_) | refine j4 (hK _ _ (z4 (by kernel_rfl)) ?_)); clear hK K)); (first | show AWP _ _ _ _ _ | ((try simp only [j6]); first | show loopQ _ _ _ _ _ _ | show cutQ _ _ _ _ | show AWP _ _ _ _ _))) | ((first | refine x7 [] rfl ?_ | refine j7 [] rfl ?_); simp (maxSteps := 2000000) (disch := omega) only [go_sem, seval, hd, cb, tnPK, tnMK, tnP1K, tnM1K]; (repeat (first | refine ⟨by omega, ?_⟩ | refine ⟨True.intro, ?_⟩)))))
              )
            (first | (refine z3 (hK _ ?_); exact (retM_void rfl rfl ⟨rfl, rfl⟩).1) | (refine z6 ?_; exact (retM_void rfl rfl ⟨rfl, rfl⟩).1) | (refine q6 ?_; exact (retM_void rfl rfl ⟨rfl, rfl⟩).1) | (refine j8 ?_; exact (retM_void rfl rfl ⟨rfl, rfl⟩).2) | exact (retM_void rfl rfl ⟨rfl, rfl⟩).1)
end Go.Proofs.Ytbamjcnhmmgnlaa
set_option linter.unusedSimpArgs false
set_option linter.unusedVariables false
namespace Go.Proofs.Ytbamjcnhmmgnlaa
open Go.Proofs.Ytbamjcnhmmgnlaa.AL
def sbAK (key : Cube → Int) (x : Nat → Cube) (n gen : Nat) (g : FuncId) (s : {s : Nat × (Nat → Cube) // s.1 ≤ n ∧ s.1 % 20 = 0 ∧ SE key 0 n x s.2 ∧ BS key 20 0 s.1 s.2}) : ASt :=
  ⟨[(8, .p (.d (.v (.int .i64 ((s.val.1 : Int) + 20))))), (7, .p (.d (.v (.int .i64 (s.val.1 : Int))))), (6, .p (.d (.v (.int .i64 20)))), (2, .p (.fn (.func g) [] [])), (1, .p (.d (.v (.int .i64 (n : Int))))), (0, .ow 1000 gen 4 n)],
   [(1000, .own 27 4 n gen (rowFK s.val.2))]⟩
def sbBK (key : Cube → Int) (x : Nat → Cube) (n gen : Nat) (g : FuncId) (s : {s : Nat × (Nat → Cube) // 0 < s.1 ∧ s.1 ≤ 20 + 2 * n ∧ SE key 0 n x s.2 ∧ BS key s.1 0 n s.2}) : ASt :=
  ⟨[(6, .p (.d (.v (.int .i64 (s.val.1 : Int))))), (2, .p (.fn (.func g) [] [])), (1, .p (.d (.v (.int .i64 (n : Int))))), (0, .ow 1000 gen 4 n)],
   [(1000, .own 27 4 n gen (rowFK s.val.2))]⟩
def sbCK (key : Cube → Int) (x : Nat → Cube) (n gen k : Nat) (g : FuncId) (s : {s : Nat × (Nat → Cube) // s.1 ≤ n ∧ s.1 % (2 * k) = 0 ∧ SE key 0 n x s.2 ∧ BS key (2 * k) 0 s.1 s.2 ∧ BS key k s.1 n s.2}) : ASt :=
  ⟨[(8, .p (.d (.v (.int .i64 ((s.val.1 : Int) + 2 * (k : Int)))))), (7, .p (.d (.v (.int .i64 (s.val.1 : Int))))), (6, .p (.d (.v (.int .i64 (k : Int))))), (2, .p (.fn (.func g) [] [])), (1, .p (.d (.v (.int .i64 (n : Int))))), (0, .ow 1000 gen 4 n)],
   [(1000, .own 27 4 n gen (rowFK s.val.2))]⟩
theorem mod_halfK {a k : Nat} (h : a % (2 * k) = 0) : a % k = 0 := by
  obtain ⟨q, rfl⟩ := Nat.dvd_of_mod_eq_zero h
  rw [Nat.mul_right_comm]; simp
theorem mod_nextK {a k : Nat} (h : a % k = 0) : (a + k) % k = 0 := by rw [Nat.add_mod_right]; exact h
set_option maxRecDepth 100000 in
set_option maxHeartbeats 4000000 in
theorem stable_cK {key : Cube → Int} {c : Cube → Cube → Int} {g : FuncId} (hc : CmpK Try.prog g key c) (x y : Nat → Cube) (n gen : Nat) (ni : Int) (hni : ni = n) (hn : n ≤ 1099511627776) (hy : stab key 0 n x = y) :
    MCalls Try.prog 89 [.ow 1000 gen 4 n, .p (.d (.v (.int .i64 ni))), .p (.fn (.func g) [] [])] [(1000, .own 27 4 n gen (rowFK x))]
      (fun rs M => rs = [] ∧ M = [(1000, .own 27 4 n gen (rowFK y))]) := by
  subst hni hy
  refine mcalls_of_awp Try.func89 rfl (by decide +kernel) (by rw [Try.ntmps89]; simp) (fun l X h => by simp only [AL.look] at h; (repeat' split at h); all_goals first | omega | cases h) ?_; rw [Try.ntmps89]; simp only [frA]
  (repeat (first | refine j0 ?_ | refine q7 rfl ?_ | refine z7 rfl ?_ | refine x6 ?_ | (refine z5 fun K hK => ?_) | (refine j5 (by kernel_rfl) (by kernel_rfl) fun K hK => ?_) | ((first | refine q6 ?_ | refine z6 ?_ | ((first | refine z3 (hK _ ?_) | refine j4 (hK _ _ (z4 (by kernel_rfl)) ?_)); clear hK K)); (first | show AWP _ _ _ _ _ | ((try simp only [j6]); first | show loopQ _ _ _ _ _ _ | show cutQ _ _ _ _ | show AWP _ _ _ _ _))) | ((first | refine x7 [] rfl ?_ | refine j7 [] rfl ?_); simp (maxSteps := 2000000) (disch := omega) only [go_sem, seval, hd, cb, tnPK, tnMK, tnP1K, tnM1K]; (repeat (first | refine ⟨by omega, ?_⟩ | refine ⟨True.intro, ?_⟩)))))
  refine awp_loop (sbAK key x n gen g) (fun s => n - s.val.1) ⟨(0, x), by simp, by simp, SE.refl _ _ _, fun i j h1 h2 h3 => by simp only [] at h3; omega⟩ ?_ (fun s => ?_)
  · unfold sbAK
    refine Weak.list ?_ ?_; (all_goals simp (disch := omega) only [AllF, AllL, q10, z10, j9, exists_eq_left', Option.some.injEq, go_sem, seval, hd, cb, tnPK, tnMK, tnP1K, tnM1K]); (all_goals (repeat' (with_reducible apply And.intro))); (all_goals try (first | exact q8 rfl | (refine x10 ?_; omega) | (refine q8 ?_; simp; done)))
  obtain ⟨⟨a, z⟩, ha, hm, hse, hbs⟩ := s
  unfold sbAK
  simp only [] at ha hm hse hbs
  by_cases h : a + 20 ≤ n
  · (repeat (first | refine j0 ?_ | refine q7 rfl ?_ | refine z7 rfl ?_ | refine x6 ?_ | (refine z5 fun K hK => ?_) | (refine j5 (by kernel_rfl) (by kernel_rfl) fun K hK => ?_) | ((first | refine q6 ?_ | refine z6 ?_ | ((first | refine z3 (hK _ ?_) | refine j4 (hK _ _ (z4 (by kernel_rfl)) ?_)); clear hK K)); (first | show AWP _ _ _ _ _ | ((try simp only [j6]); first | show loopQ _ _ _ _ _ _ | show cutQ _ _ _ _ | show AWP _ _ _ _ _))) | ((first | refine x7 [] rfl ?_ | refine j7 [] rfl ?_); simp (maxSteps := 2000000) (disch := omega) only [go_sem, seval, hd, cb, tnPK, tnMK, tnP1K, tnM1K]; (repeat (first | refine ⟨by omega, ?_⟩ | refine ⟨True.intro, ?_⟩)))))
    (refine walkS_cons _ (step_mcall [(1000, 1000)] rfl rfl rfl rfl rfl rfl (insertion_cK hc z _ n gen a (a + 20) _ _ rfl (by omega) (by omega) h hn rfl) rfl (namesOK_of (by repeat (first | exact trivial | refine ⟨rfl, ?_⟩)) (by kernel_rfl))) ?_); simp (maxSteps := 2000000) (disch := omega) only [go_sem, seval, hd, cb, tnPK, tnMK, tnP1K, tnM1K]
    (repeat (first | refine j0 ?_ | refine q7 rfl ?_ | refine z7 rfl ?_ | refine x6 ?_ | (refine z5 fun K hK => ?_) | (refine j5 (by kernel_rfl) (by kernel_rfl) fun K hK => ?_) | ((first | refine q6 ?_ | refine z6 ?_ | ((first | refine z3 (hK _ ?_) | refine j4 (hK _ _ (z4 (by kernel_rfl)) ?_)); clear hK K)); (first | show AWP _ _ _ _ _ | ((try simp only [j6]); first | show loopQ _ _ _ _ _ _ | show cutQ _ _ _ _ | show AWP _ _ _ _ _))) | ((first | refine x7 [] rfl ?_ | refine j7 [] rfl ?_); simp (maxSteps := 2000000) (disch := omega) only [go_sem, seval, hd, cb, tnPK, tnMK, tnP1K, tnM1K]; (repeat (first | refine ⟨by omega, ?_⟩ | refine ⟨True.intro, ?_⟩)))))
    have se := stab_se (key := key) a (a + 20) z
    have so := stab_srt (key := key) a (a + 20) z
    refine ⟨⟨(a + 20, stab key a (a + 20) z), h, mod_nextK hm, hse.trans (se.widen (Nat.zero_le _) (by omega) h), hbs.more (by omega) hm (Nat.le_refl _) (fun k hk => se.out k (by omega)) so⟩, by simp only []; omega, ?_⟩
    refine Weak.list ?_ ?_; (all_goals simp (disch := omega) only [AllF, AllL, q10, z10, j9, exists_eq_left', Option.some.injEq, go_sem, seval, hd, cb, tnPK, tnMK, tnP1K, tnM1K]); (all_goals (repeat' (with_reducible apply And.intro))); (all_goals try (first | exact q8 rfl | (refine x10 ?_; omega) | (refine q8 ?_; simp; done)))
  · (repeat ((fail_if_success (show AWP _ _ (.region 6 _ _) _ _)); first | refine j0 ?_ | refine q7 rfl ?_ | refine z7 rfl ?_ | refine x6 ?_ | (refine z5 fun K hK => ?_) | (refine j5 (by kernel_rfl) (by kernel_rfl) fun K hK => ?_) | ((first | refine q6 ?_ | refine z6 ?_ | ((first | refine z3 (hK _ ?_) | refine j4 (hK _ _ (z4 (by kernel_rfl)) ?_)); clear hK K)); (first | show AWP _ _ _ _ _ | ((try simp only [j6]); first | show loopQ _ _ _ _ _ _ | show cutQ _ _ _ _ | show AWP _ _ _ _ _))) | ((first | refine x7 [] rfl ?_ | refine j7 [] rfl ?_); simp (maxSteps := 2000000) (disch := omega) only [go_sem, seval, hd, cb, tnPK, tnMK, tnP1K, tnM1K]; (repeat (first | refine ⟨by omega, ?_⟩ | refine ⟨True.intro, ?_⟩)))))
    (repeat (first | refine j0 ?_ | refine q7 rfl ?_ | refine z7 rfl ?_ | refine x6 ?_ | (refine z5 fun K hK => ?_) | (refine j5 (by kernel_rfl) (by kernel_rfl) fun K hK => ?_) | ((first | refine q6 ?_ | refine z6 ?_ | ((first | refine z3 (hK _ ?_) | refine j4 (hK _ _ (z4 (by kernel_rfl)) ?_)); clear hK K)); (first | show AWP _ _ _ _ _ | ((try simp only [j6]); first | show loopQ _ _ _ _ _ _ | show cutQ _ _ _ _ | show AWP _ _ _ _ _))) | ((first | refine x7 [] rfl ?_ | refine j7 [] rfl ?_); simp (maxSteps := 2000000) (disch := omega) only [go_sem, seval, hd, cb, tnPK, tnMK, tnP1K, tnM1K]; (repeat (first | refine ⟨by omega, ?_⟩ | refine ⟨True.intro, ?_⟩)))))
    (refine walkS_cons _ (step_mcall [(1000, 1000)] rfl rfl rfl rfl rfl rfl (insertion_cK hc z _ n gen a n _ _ rfl rfl ha (Nat.le_refl _) hn rfl) rfl (namesOK_of (by repeat (first | exact trivial | refine ⟨rfl, ?_⟩)) (by kernel_rfl))) ?_); simp (maxSteps := 2000000) (disch := omega) only [go_sem, seval, hd, cb, tnPK, tnMK, tnP1K, tnM1K]
    (repeat (first | refine j0 ?_ | refine q7 rfl ?_ | refine z7 rfl ?_ | refine x6 ?_ | (refine z5 fun K hK => ?_) | (refine j5 (by kernel_rfl) (by kernel_rfl) fun K hK => ?_) | ((first | refine q6 ?_ | refine z6 ?_ | ((first | refine z3 (hK _ ?_) | refine j4 (hK _ _ (z4 (by kernel_rfl)) ?_)); clear hK K)); (first | show AWP _ _ _ _ _ | ((try simp only [j6]); first | show loopQ _ _ _ _ _ _ | show cutQ _ _ _ _ | show AWP _ _ _ _ _))) | ((first | refine x7 [] rfl ?_ | refine j7 [] rfl ?_); simp (maxSteps := 2000000) (disch := omega) only [go_sem, seval, hd, cb, tnPK, tnMK, tnP1K, tnM1K]; (repeat (first | refine ⟨by omega, ?_⟩ | refine ⟨True.intro, ?_⟩)))))
    have se := stab_se (key := key) a n z
    have so := stab_srt (key := key) a n z
    refine awp_loop (sbBK key x n gen g) (fun s => n - s.val.1) ⟨(20, stab key a n z), by simp, by simp, hse.trans (se.widen (Nat.zero_le _) ha (Nat.le_refl _)), hbs.more (by omega) hm (by omega) (fun k hk => se.out k (by omega)) so⟩ ?_ (fun s => ?_)
    · unfold sbBK
      refine Weak.list ?_ ?_; (all_goals simp (disch := omega) only [AllF, AllL, q10, z10, j9, exists_eq_left', Option.some.injEq, go_sem, seval, hd, cb, tnPK, tnMK, tnP1K, tnM1K]); (all_goals (repeat' (with_reducible apply And.intro))); (all_goals try (first | exact q8 rfl | (refine x10 ?_; omega) | (refine q8 ?_; simp; done)))
    clear se so hbs hse hm ha h
    obtain ⟨⟨k, u⟩, hk, hk2, hse, hbs⟩ := s
    unfold sbBK
    simp only [] at hk hk2 hse hbs
    by_cases hkn : k < n
    · (repeat (first | refine j0 ?_ | refine q7 rfl ?_ | refine z7 rfl ?_ | refine x6 ?_ | (refine z5 fun K hK => ?_) | (refine j5 (by kernel_rfl) (by kernel_rfl) fun K hK => ?_) | ((first | refine q6 ?_ | refine z6 ?_ | ((first | refine z3 (hK _ ?_) | refine j4 (hK _ _ (z4 (by kernel_rfl)) ?_)); clear hK K)); (first | show AWP _ _ _ _ _ | ((try simp only [j6]); first | show loopQ _ _ _ _ _ _ | show cutQ _ _ _ _ | show AWP _ _ _ _ _))) | ((first | refine x7 [] rfl ?_ | refine j7 [] rfl ?_); simp (maxSteps := 2000000) (disch := omega) only [go_sem, seval, hd, cb, tnPK, tnMK, tnP1K, tnM1K]; (repeat (first | refine ⟨by omega, ?_⟩ | refine ⟨True.intro, ?_⟩)))))
      refine awp_loop (sbCK key x n gen k g) (fun s => n - s.val.1) ⟨(0, u), by simp, by simp, hse, fun i j h1 h2 h3 => by simp only [] at h3; omega, hbs⟩ ?_ (fun s => ?_)
      · unfold sbCK
        refine Weak.list ?_ ?_; (all_goals simp (disch := omega) only [AllF, AllL, q10, z10, j9, exists_eq_left', Option.some.injEq, go_sem, seval, hd, cb, tnPK, tnMK, tnP1K, tnM1K]); (all_goals (repeat' (with_reducible apply And.intro))); (all_goals try (first | exact q8 rfl | (refine x10 ?_; omega) | (refine q8 ?_; simp; done)))
      obtain ⟨⟨a, z⟩, ha, hm, hse, hb2, hb1⟩ := s
      unfold sbCK
      simp only [] at ha hm hse hb2 hb1
      have hm1 := mod_halfK hm
      by_cases h : a + 2 * k ≤ n
      · (repeat (first | refine j0 ?_ | refine q7 rfl ?_ | refine z7 rfl ?_ | refine x6 ?_ | (refine z5 fun K hK => ?_) | (refine j5 (by kernel_rfl) (by kernel_rfl) fun K hK => ?_) | ((first | refine q6 ?_ | refine z6 ?_ | ((first | refine z3 (hK _ ?_) | refine j4 (hK _ _ (z4 (by kernel_rfl)) ?_)); clear hK K)); (first | show AWP _ _ _ _ _ | ((try simp only [j6]); first | show loopQ _ _ _ _ _ _ | show cutQ _ _ _ _ | show AWP _ _ _ _ _))) | ((first | refine x7 [] rfl ?_ | refine j7 [] rfl ?_); simp (maxSteps := 2000000) (disch := omega) only [go_sem, seval, hd, cb, tnPK, tnMK, tnP1K, tnM1K]; (repeat (first | refine ⟨by omega, ?_⟩ | refine ⟨True.intro, ?_⟩)))))
        (refine walkS_cons _ (step_mcall [(1000, 1000)] rfl rfl rfl rfl rfl rfl (symMerge_cK hc n gen hn _ z _ a (a + k) (a + 2 * k) _ _ _ (Nat.le_refl _) rfl (by omega) (by omega) (by omega) (by omega) h (hb1.srt hk hm1 (Nat.le_refl _) (by omega) (by omega)) (hb1.srt hk (mod_nextK hm1) (by omega) (by omega) (by omega)) rfl) rfl (namesOK_of (by repeat (first | exact trivial | refine ⟨rfl, ?_⟩)) (by kernel_rfl))) ?_); simp (maxSteps := 2000000) (disch := omega) only [go_sem, seval, hd, cb, tnPK, tnMK, tnP1K, tnM1K]
        (repeat (first | refine j0 ?_ | refine q7 rfl ?_ | refine z7 rfl ?_ | refine x6 ?_ | (refine z5 fun K hK => ?_) | (refine j5 (by kernel_rfl) (by kernel_rfl) fun K hK => ?_) | ((first | refine q6 ?_ | refine z6 ?_ | ((first | refine z3 (hK _ ?_) | refine j4 (hK _ _ (z4 (by kernel_rfl)) ?_)); clear hK K)); (first | show AWP _ _ _ _ _ | ((try simp only [j6]); first | show loopQ _ _ _ _ _ _ | show cutQ _ _ _ _ | show AWP _ _ _ _ _))) | ((first | refine x7 [] rfl ?_ | refine j7 [] rfl ?_); simp (maxSteps := 2000000) (disch := omega) only [go_sem, seval, hd, cb, tnPK, tnMK, tnP1K, tnM1K]; (repeat (first | refine ⟨by omega, ?_⟩ | refine ⟨True.intro, ?_⟩)))))
        have se := stab_se (key := key) a (a + 2 * k) z
        have so := stab_srt (key := key) a (a + 2 * k) z
        refine ⟨⟨(a + 2 * k, stab key a (a + 2 * k) z), h, mod_nextK hm, hse.trans (se.widen (Nat.zero_le _) (by omega) h), hb2.more (by omega) hm (Nat.le_refl _) (fun k hk => se.out k (by omega)) so, hb1.drop (by omega) (Nat.le_refl _) (fun k k1 k2 => se.out k (by omega))⟩, by simp only []; omega, ?_⟩
        refine Weak.list ?_ ?_; (all_goals simp (disch := omega) only [AllF, AllL, q10, z10, j9, exists_eq_left', Option.some.injEq, go_sem, seval, hd, cb, tnPK, tnMK, tnP1K, tnM1K]); (all_goals (repeat' (with_reducible apply And.intro))); (all_goals try (first | exact q8 rfl | (refine x10 ?_; omega) | (refine q8 ?_; simp; done)))
      · by_cases hmn : a + k < n
        · (repeat (first | refine j0 ?_ | refine q7 rfl ?_ | refine z7 rfl ?_ | refine x6 ?_ | (refine z5 fun K hK => ?_) | (refine j5 (by kernel_rfl) (by kernel_rfl) fun K hK => ?_) | ((first | refine q6 ?_ | refine z6 ?_ | ((first | refine z3 (hK _ ?_) | refine j4 (hK _ _ (z4 (by kernel_rfl)) ?_)); clear hK K)); (first | show AWP _ _ _ _ _ | ((try simp only [j6]); first | show loopQ _ _ _ _ _ _ | show cutQ _ _ _ _ | show AWP _ _ _ _ _))) | ((first | refine x7 [] rfl ?_ | refine j7 [] rfl ?_); simp (maxSteps := 2000000) (disch := omega) only [go_sem, seval, hd, cb, tnPK, tnMK, tnP1K, tnM1K]; (repeat (first | refine ⟨by omega, ?_⟩ | refine ⟨True.intro, ?_⟩)))))
          (refine walkS_cons _ (step_mcall [(1000, 1000)] rfl rfl rfl rfl rfl rfl (symMerge_cK hc n gen hn _ z _ a (a + k) n _ _ _ (Nat.le_refl _) rfl (by omega) rfl (by omega) (by omega) (Nat.le_refl _) (hb1.srt hk hm1 (Nat.le_refl _) (by omega) (by omega)) (hb1.srt hk (mod_nextK hm1) (by omega) (by omega) (by omega)) rfl) rfl (namesOK_of (by repeat (first | exact trivial | refine ⟨rfl, ?_⟩)) (by kernel_rfl))) ?_); simp (maxSteps := 2000000) (disch := omega) only [go_sem, seval, hd, cb, tnPK, tnMK, tnP1K, tnM1K]
          (repeat (first | refine j0 ?_ | refine q7 rfl ?_ | refine z7 rfl ?_ | refine x6 ?_ | (refine z5 fun K hK => ?_) | (refine j5 (by kernel_rfl) (by kernel_rfl) fun K hK => ?_) | ((first | refine q6 ?_ | refine z6 ?_ | ((first | refine z3 (hK _ ?_) | refine j4 (hK _ _ (z4 (by kernel_rfl)) ?_)); clear hK K)); (first | show AWP _ _ _ _ _ | ((try simp only [j6]); first | show loopQ _ _ _ _ _ _ | show cutQ _ _ _ _ | show AWP _ _ _ _ _))) | ((first | refine x7 [] rfl ?_ | refine j7 [] rfl ?_); simp (maxSteps := 2000000) (disch := omega) only [go_sem, seval, hd, cb, tnPK, tnMK, tnP1K, tnM1K]; (repeat (first | refine ⟨by omega, ?_⟩ | refine ⟨True.intro, ?_⟩)))))
          have se := stab_se (key := key) a n z
          have so := stab_srt (key := key) a n z
          refine ⟨⟨(2 * k, stab key a n z), by simp only []; omega, by simp only []; omega, hse.trans (se.widen (Nat.zero_le _) (by omega) (Nat.le_refl _)), hb2.more (by omega) hm (by omega) (fun k hk => se.out k (by omega)) so⟩, by simp only []; omega, ?_⟩
          refine Weak.list ?_ ?_; (all_goals simp (disch := omega) only [AllF, AllL, q10, z10, j9, exists_eq_left', Option.some.injEq, go_sem, seval, hd, cb, tnPK, tnMK, tnP1K, tnM1K]); (all_goals (repeat' (with_reducible apply And.intro))); (all_goals try (first | exact q8 rfl | (refine x10 ?_; omega) | (refine q8 ?_; simp; done)))
        · (repeat (first | refine j0 ?_ | refine q7 rfl ?_ | refine z7 rfl ?_ | refine x6 ?_ | (refine z5 fun K hK => ?_) | (refine j5 (by kernel_rfl) (by kernel_rfl) fun K hK => ?_) | ((first | refine q6 ?_ | refine z6 ?_ | ((first | refine z3 (hK _ ?_) | refine j4 (hK _ _ (z4 (by kernel_rfl)) ?_)); clear hK K)); (first | show AWP _ _ _ _ _ | ((try simp only [j6]); first | show loopQ _ _ _ _ _ _ | show cutQ _ _ _ _ | show AWP _ _ _ _ _))) | ((first | refine x7 [] rfl ?_ | refine j7 [] rfl ?_); simp (maxSteps := 2000000) (disch := omega) only [go_sem, seval, hd, cb, tnPK, tnMK, tnP1K, tnM1K]; (repeat (first | refine ⟨by omega, ?_⟩ | refine ⟨True.intro, ?_⟩)))))
          refine ⟨⟨(2 * k, z), by simp only []; omega, by simp only []; omega, hse, hb2.more (by omega) hm (by omega) (fun k hk => rfl) (hb1.srt hk hm1 (Nat.le_refl _) (Nat.le_refl _) (by omega))⟩, by simp only []; omega, ?_⟩
          refine Weak.list ?_ ?_; (all_goals simp (disch := omega) only [AllF, AllL, q10, z10, j9, exists_eq_left', Option.some.injEq, go_sem, seval, hd, cb, tnPK, tnMK, tnP1K, tnM1K]); (all_goals (repeat' (with_reducible apply And.intro))); (all_goals try (first | exact q8 rfl | (refine x10 ?_; omega) | (refine q8 ?_; simp; done)))
    · (repeat (first | refine j0 ?_ | refine q7 rfl ?_ | refine z7 rfl ?_ | refine x6 ?_ | (refine z5 fun K hK => ?_) | (refine j5 (by kernel_rfl) (by kernel_rfl) fun K hK => ?_) | ((first | refine q6 ?_ | refine z6 ?_ | ((first | refine z3 (hK _ ?_) | refine j4 (hK _ _ (z4 (by kernel_rfl)) ?_)); clear hK K)); (first | show AWP _ _ _ _ _ | ((try simp only [j6]); first | show loopQ _ _ _ _ _ _ | show cutQ _ _ _ _ | show AWP _ _ _ _ _))) | ((first | refine x7 [] rfl ?_ | refine j7 [] rfl ?_); simp (maxSteps := 2000000) (disch := omega) only [go_sem, seval, hd, cb, tnPK, tnMK, tnP1K, tnM1K]; (repeat (first | refine ⟨by omega, ?_⟩ | refine ⟨True.intro, ?_⟩)))))
      have ey := funext (stab_eq hse (hbs.end (by omega)))
      rw [← ey]
      (first | (refine z3 (hK _ ?_); exact (retM_void rfl rfl ⟨rfl, rfl⟩).1) | (refine z6 ?_; exact (retM_void rfl rfl ⟨rfl, rfl⟩).1) | (refine q6 ?_; exact (retM_void rfl rfl ⟨rfl, rfl⟩).1) | (refine j8 ?_; exact (retM_void rfl rfl ⟨rfl, rfl⟩).2) | exact (retM_void rfl rfl ⟨rfl, rfl⟩).1)
set_option maxRecDepth 100000 in
theorem SortStable_cK {key : Cube → Int} {c : Cube → Cube → Int} {g : FuncId} (hc : CmpK Try.prog g key c) (x : Nat → Cube) (n gen : Nat) (hn : n ≤ 1099511627776) :
    MCalls Try.prog 61 [.ow 1000 gen 4 n, .p (.fn (.func g) [] [])] [(1000, .own 27 4 n gen (rowFK x))]
      (fun rs M => rs = [] ∧ M = [(1000, .own 27 4 n gen (rowFK (stab key 0 n x)))]) := by
  refine mcalls_of_awp Try.func61 rfl (by decide +kernel) (by rw [Try.ntmps61]; simp) (fun l X h => by simp only [AL.look] at h; (repeat' split at h); all_goals first | omega | cases h) ?_; rw [Try.ntmps61]; simp only [frA]
  (repeat (first | refine j0 ?_ | refine q7 rfl ?_ | refine z7 rfl ?_ | refine x6 ?_ | (refine z5 fun K hK => ?_) | (refine j5 (by kernel_rfl) (by kernel_rfl) fun K hK => ?_) | ((first | refine q6 ?_ | refine z6 ?_ | ((first | refine z3 (hK _ ?_) | refine j4 (hK _ _ (z4 (by kernel_rfl)) ?_)); clear hK K)); (first | show AWP _ _ _ _ _ | ((try simp only [j6]); first | show loopQ _ _ _ _ _ _ | show cutQ _ _ _ _ | show AWP _ _ _ _ _))) | ((first | refine x7 [] rfl ?_ | refine j7 [] rfl ?_); simp (maxSteps := 2000000) (disch := omega) only [go_sem, seval, hd, cb, tnPK, tnMK, tnP1K, tnM1K]; (repeat (first | refine ⟨by omega, ?_⟩ | refine ⟨True.intro, ?_⟩)))))
  (refine walkS_cons _ (step_mcall [(1000, 1000)] rfl rfl rfl rfl rfl rfl (stable_cK hc x _ n gen _ rfl hn rfl) rfl (namesOK_of (by repeat (first | exact trivial | refine ⟨rfl, ?_⟩)) (by kernel_rfl))) ?_); simp (maxSteps := 2000000) (disch := omega) only [go_sem, seval, hd, cb, tnPK, tnMK, tnP1K, tnM1K]
  (repeat (first | refine j0 ?_ | refine q7 rfl ?_ | refine z7 rfl ?_ | refine x6 ?_ | (refine z5 fun K hK => ?_) | (refine j5 (by kernel_rfl) (by kernel_rfl) fun K hK => ?_) | ((first | refine q6 ?_ | refine z6 ?_ | ((first | refine z3 (hK _ ?_) | refine j4 (hK _ _ (z4 (by kernel_rfl)) ?_)); clear hK K)); (first | show AWP _ _ _ _ _ | ((try simp only [j6]); first | show loopQ _ _ _ _ _ _ | show cutQ _ _ _ _ | show AWP _ _ _ _ _))) | ((first | refine x7 [] rfl ?_ | refine j7 [] rfl ?_); simp (maxSteps := 2000000) (disch := omega) only [go_sem, seval, hd, cb, tnPK, tnMK, tnP1K, tnM1K]; (repeat (first | refine ⟨by omega, ?_⟩ | refine ⟨True.intro, ?_⟩)))))
  (first | (refine z3 (hK _ ?_); exact (retM_void rfl rfl ⟨rfl, rfl⟩).1) | (refine z6 ?_; exact (retM_void rfl rfl ⟨rfl, rfl⟩).1) | (refine q6 ?_; exact (retM_void rfl rfl ⟨rfl, rfl⟩).1) | (refine j8 ?_; exact (retM_void rfl rfl ⟨rfl, rfl⟩).2) | exact (retM_void rfl rfl ⟨rfl, rfl⟩).1)
end Go.Proofs.Ytbamjcnhmmgnlaa
set_option linter.unusedSimpArgs false
set_option linter.unusedVariables false
namespace Go.Proofs.Ytbamjcnhmmgnlaa.AL
open Go
theorem Weak.ownCell (A : ASt) (l0 l j sz : Nat) (e e' : TypeId) (cs : List AV) (f : Nat → List Dat) (hl0 : look A.locs l0 = some (.cells e cs)) (hj : cs[j]? = some (.p (.d (.v (.slice none 0 0))))) (hne : l0 ≠ l)
    (hu : unusedB A l = true) (hn : look A.locs l = none) : Weak A ⟨A.fr, (l, .own e' sz 0 0 f) :: (l0, .cells e (cs.set j (.ow l 0 sz 0))) :: A.locs⟩ := by
  intro w0 g0 nt h a w r
  let h' : Gh := { h with κ := fun k => if k = l then .slice none 0 0 else h.κ k, μ := fun k => if k = l then 0 else h.μ k }
  have un := unusedB_spec hu
  have tr : Trans w0.O w h w h' (fun _ => False) (some l) true := by
    refine ⟨BelowS.refl _ _, fun b _ _ => ⟨rfl, rfl⟩, ⟨fun b => Nat.le_refl _, fun b o _ => rfl⟩, r.gz, fun b _ => rfl, fun _ _ => rfl, fun k hk => ?_, fun k _ hf => by cases hf⟩
    have : k ≠ l := fun e => hk (by rw [e])
    simp [h', this]
  have nl : h'.κ l = .slice none 0 0 := by simp [h']
  have nm : h'.μ l = 0 := by simp [h']
  have old : ∀ k L, k ≠ l → look A.locs k = some L → LocOK w0.O w h' k L ∧ inB h' k L = inB h k L := fun k L hk hL =>
    LocOK.trans tr (fun e => hk (by cases e; rfl)) (fun _ l' hl' hm => by cases hl'; exact un.2.1 k L hL hm) (fun b _ => by simp) (r.locs k L hL)
  have cell0 : LocOK w0.O w h' l0 (.cells e (cs.set j (.ow l 0 sz 0))) := by
    obtain ⟨arr, c1, c2, c3, c4, c5⟩ := (old l0 _ hne hl0).1
    refine ⟨arr, c1, c2, by simpa using c3, c4, fun i v x hv hx => ?_⟩
    by_cases hi : i = j
    · subst hi
      have hlt := (List.getElem?_eq_some_iff.1 hj).1
      rw [List.getElem?_set_self hlt] at hx
      cases hx
      obtain ⟨k1, k2⟩ := c5 i v _ hv hj
      have hv0 := relA_nil k1
      refine ⟨?_, k2⟩
      rw [hv0]
      exact ⟨by omega, ⟨_, _, rfl, fun hh => by omega⟩, fun _ => nl.symm⟩
    · rw [List.getElem?_set_ne (fun e => hi e.symm)] at hx
      exact c5 i v x hv hx
  refine ⟨h', r.size, r.defers, fun u y hy => ?_, fun k L hL => ?_, fun k k' L L' b hne2 hL hL' hbk => ?_, r.ext, fun k hk => ?_⟩
  · exact RelA.trans tr (fun _ l' hl' hm => by cases hl'; exact un.1 u y hy hm) (r.fr u y hy)
  · simp only [look] at hL
    split at hL
    · rename_i e2; subst e2; cases hL
      exact ⟨nm, ⟨[], by rw [nl]; exact World.ownsRow_nil _ _ _ _, fun i hi => by omega, fun i j d hi => by omega⟩, fun b hb => by rw [nl] at hb; simp [Value.ownBlock] at hb⟩
    · rename_i hk
      split at hL
      · rename_i e2; subst e2; cases hL; exact cell0
      · exact (old k L (fun e => hk e.symm) hL).1
  · have two : ∀ {k : Nat} {L : LV}, look ((l, LV.own e' sz 0 0 f) :: (l0, .cells e (cs.set j (.ow l 0 sz 0))) :: A.locs) k = some L → inB h' k L b → k ≠ l ∧ ∃ L0, look A.locs k = some L0 ∧ inB h k L0 b := by
      intro k L hL hb
      simp only [look] at hL
      split at hL
      · rename_i e2; subst e2; cases hL
        simp [inB, nl, Value.ownBlock] at hb
      · rename_i hk
        refine ⟨fun e => hk e.symm, ?_⟩
        split at hL
        · rename_i e2; subst e2; cases hL
          exact ⟨_, hl0, hb⟩
        · exact ⟨L, hL, by rw [← (old k L (fun e => hk e.symm) hL).2]; exact hb⟩
    intro hin
    obtain ⟨a1, L1, a2, a3⟩ := two hL hbk
    obtain ⟨b1, L2, b2, b3⟩ := two hL' hin
    exact r.sep k k' L1 L2 b hne2 a2 b2 a3 b3
  · have : k ≠ l := by have := un.2.2; omega
    simp only [h', if_neg this]
    exact r.pin k hk
theorem awp_ownCell {P : Program} {nt : Nat} {c : Code} {Q : Exit → ASt → Prop} {A : ASt} (l0 l j sz : Nat) (e' : TypeId) (f : Nat → List Dat) {e : TypeId} {cs : List AV} (hl0 : look A.locs l0 = some (.cells e cs)) (hj : cs[j]? = some (.p (.d (.v (.slice none 0 0))))) (hne : l0 ≠ l)
    (hu : unusedB A l = true) (hn : look A.locs l = none) (h : AWP P nt c Q ⟨A.fr, (l, .own e' sz 0 0 f) :: (l0, .cells e (cs.set j (.ow l 0 sz 0))) :: A.locs⟩) : AWP P nt c Q A := awp_weak (Weak.ownCell A l0 l j sz e e' cs f hl0 hj hne hu hn) h
end Go.Proofs.Ytbamjcnhmmgnlaa.AL
set_option linter.unusedSimpArgs false
set_option linter.unusedVariables false
namespace Go.Proofs.Ytbamjcnhmmgnlaa.AL
open Go
def LLes (M M2 : List (Nat × LV)) : Prop := ∀ l X2, look M2 l = some X2 → ∃ X, look M l = some X ∧ LLe X X2
theorem LLes.nil (M : List (Nat × LV)) : LLes M [] := fun l X2 h => by simp [look] at h
theorem LLes.cons {M M2 : List (Nat × LV)} {l : Nat} {X X2 : LV} (h : look M l = some X) (hl : LLe X X2) (t : LLes M M2) : LLes M ((l, X2) :: M2) := fun k Y hk => by
  simp only [look] at hk
  split at hk
  · rename_i e; subst e; cases hk; exact ⟨X, h, hl⟩
  · exact t k Y hk
theorem LLe.refl (X : LV) : LLe X X := of_eq_true (j9 X)
theorem MCalls.out {P : Program} {f : FuncId} {xs : List AV} {L M M2 : List (Nat × LV)} {rs : List AV} (h : MCalls P f xs L (fun r M' => r = rs ∧ M' = M)) (hM : LLes M M2) : MCalls P f xs L (fun r M' => r = rs ∧ M' = M2) := by
  intro w g vs hz hr hl
  have key := h w g vs hz hr hl
  have fin : ∀ v w', (∃ h' r M', (r = rs ∧ M' = M) ∧ RelRA w' h' v r ∧ LocsOK (fun _ => True) w' h' M' ∧ Chg L M' w g w' h') → ∃ h' r M', (r = rs ∧ M' = M2) ∧ RelRA w' h' v r ∧ LocsOK (fun _ => True) w' h' M' ∧ Chg L M' w g w' h' := by
    rintro v w' ⟨h', r, M', ⟨rfl, rfl⟩, h1, h2, h3⟩
    refine ⟨h', _, M2, ⟨rfl, rfl⟩, h1, ⟨fun l X2 hX => ?_, fun l l' X X' b hne e1 e2 hb hb' => ?_⟩, ⟨h3.below, h3.gam, h3.gz, h3.keep, h3.ρ, h3.up, fun b hb => ?_⟩⟩
    · obtain ⟨X, e1, e2⟩ := hM l X2 hX
      exact (lle_ok e2 (h2.1 l X e1)).1
    · obtain ⟨Y, y1, y2⟩ := hM l X e1
      obtain ⟨Y', z1, z2⟩ := hM l' X' e2
      rw [(lle_ok y2 (h2.1 l Y y1)).2] at hb
      rw [(lle_ok z2 (h2.1 l' Y' z1)).2] at hb'
      exact h2.2 l l' Y Y' b hne y1 z1 hb hb'
    · obtain ⟨l, X2, e1, e2⟩ := hb
      obtain ⟨Y, y1, y2⟩ := hM l X2 e1
      rw [(lle_ok y2 (h2.1 l Y y1)).2] at e2
      exact h3.own b ⟨l, Y, y1, e2⟩
  unfold CallRes at *
  split at key
  · exact key.mono fun e w' ⟨v, he, hh⟩ => ⟨v, he, fin v w' hh⟩
  · exact fin _ _ key
  · exact key.elim
end Go.Proofs.Ytbamjcnhmmgnlaa.AL
set_option linter.unusedSimpArgs false
set_option linter.unusedVariables false
namespace Go.Proofs.Ytbamjcnhmmgnlaa
open Go Go.RowKit Go.Proofs.Ytbamjcnhmmgnlaa.AL
theorem eqI_iff : ∀ (a b : List Int), eqI a b = decide (a = b)
  | [], [] => by simp [eqI]
  | [], _ :: _ => by simp [eqI]
  | _ :: _, [] => by simp [eqI]
  | x :: a, y :: b => by
    simp only [eqI, eqI_iff a b, List.cons.injEq]
    by_cases h : x = y <;> by_cases h2 : a = b <;> simp [h, h2]
theorem ints_zip : ∀ (ks : List IntKind) (xs : List Int), List.zipWith Value.int ks xs = ints ks xs
  | [], _ => by simp [ints]
  | _ :: _, [] => by simp [ints]
  | k :: ks, x :: xs => by
    have := ints_zip ks xs
    simp only [List.zipWith_cons_cons, this]
    rfl
theorem keyVal_two {k k' : IntKind} {ks : List IntKind} (xs : List Int) : keyVal (k :: k' :: ks) xs = .agg (ints (k :: k' :: ks) xs).toArray := by
  rw [← ints_zip]
  unfold keyVal
  split
  · rename_i h2; simp at h2
  · rfl
theorem findAsking_eq {P : Program} {kt : TypeId} {k k' : IntKind} {ks : List IntKind} (hE : EqTy P kt (k :: k' :: ks)) (w : World) (xs : List Int) (hx : xs.length = (k :: k' :: ks).length) : ∀ (es : List MapEntry) (yss : List (List Int)) (i0 : Nat), es.length = yss.length →
    (∀ (i : Nat) e ys, es[i]? = some e → yss[i]? = some ys → e.key = keyVal (k :: k' :: ks) ys ∧ ys.length = (k :: k' :: ks).length) →
    (Instr.findAsking kt (keyVal (k :: k' :: ks) xs) es i0).run P w = .ok ((findI xs yss).bind fun i => es[i]?.map fun e => (i0 + i, e.val)) w
  | [], [], i0, _, _ => by simp [Instr.findAsking, findI]
  | e :: es, ys :: yss, i0, hl, h => by
    obtain ⟨h1, h2⟩ := h 0 e ys rfl rfl
    have ih := findAsking_eq hE w xs hx es yss (i0 + 1) (by simpa using hl) fun i e ys he hy => h (i + 1) e ys (by simpa using he) (by simpa using hy)
    have he := hE.2 w xs ys hx h2
    rw [keyVal_two] at h1 ih ⊢
    unfold Instr.findAsking
    rw [h1]
    simp only [Sem.run_bind, he, Result.andThen_ok]
    rw [eqI_iff]
    unfold findI
    by_cases hxy : ys = xs
    · subst hxy; simp
    · rw [if_neg hxy]
      have : ¬ xs = ys := fun e => hxy e.symm
      simp only [decide_eq_false this, Bool.false_eq_true, if_false, ih]
      cases findI xs yss with
      | none => rfl
      | some i =>
        simp only [Option.map_some, Option.bind_some, List.getElem?_cons_succ]
        cases es[i]? with
        | none => rfl
        | some e => simp only [Option.map_some]; congr 3; omega
theorem keyTy_agg {P : Program} {kt : TypeId} {k k' : IntKind} {ks : List IntKind} {fs : Array Field} (hu : P.underlying kt = some (.struct fs)) (hE : EqTy P kt (k :: k' :: ks))
    (hc : ∀ (e : Bool) (xs : List Int) (w : World), xs.length = (k :: k' :: ks).length → (Instr.checkKey e 10000 kt (keyVal (k :: k' :: ks) xs)).run P w = .ok () w) : KeyTy P kt (k :: k' :: ks) where
  check := hc
  find := fun w xs es yss hx hl h => by
    have fa := findAsking_eq hE w xs hx es yss 0 hl h
    simp only [Nat.zero_add] at fa
    unfold Instr.findKey
    simp only [Sem.run_bind, run_underlying hu, Result.andThen_ok]
    cases es with
    | nil =>
      cases yss with
      | nil => simp [Instr.findNow, findI]
      | cons => simp at hl
    | cons e es =>
      rw [keyVal_two] at fa ⊢
      simp only [Instr.findNow, Instr.sameNow]
      exact fa
theorem keyTy_cube : KeyTy Try.prog 27 [.u64, .u64, .u64, .u64] := by
  refine keyTy_agg Try.underlying27 q9 fun e xs w hx => ?_
  obtain ⟨a, b, c, d, rfl⟩ : ∃ a b c d, xs = [a, b, c, d] := by
    match xs, hx with
    | [a, b, c, d], _ => exact ⟨a, b, c, d, rfl⟩
  have key : ∀ n, (Instr.checkKey e (n + 1 + 1 + 1) 27 (.agg #[.int .u64 a, .int .u64 b, .int .u64 c, .int .u64 d])).run Try.prog w = .ok () w := by
    intro n
    simp [Instr.checkKey, run_underlying Try.underlying27, run_underlying Try.underlying25, run_underlying Try.underlying23, part, Try.isAgg25, Try.isAgg23, Try.sizeOf25, Try.sizeOf23]
  exact key 9997
end Go.Proofs.Ytbamjcnhmmgnlaa
set_option linter.unusedSimpArgs false
set_option linter.unusedVariables false
namespace Go.Proofs.Ytbamjcnhmmgnlaa.AL
variable {P : Program} {nt : Nat} {Q : Exit → ASt → Prop} {A : ASt}
def cutQ {ι : Type} (I : ι → ASt) (Q : Exit → ASt → Prop) : Exit → ASt → Prop
  | .normal, A => ∃ i, Weak A (I i)
  | e, A => Q e A
attribute [irreducible] cutQ
theorem look_of_all {α : Type} {M : List (Nat × α)} : ∀ {L : List (Nat × α)}, (∀ p ∈ L, look M p.1 = some p.2) → ∀ l X, look L l = some X → look M l = some X
  | [], _, l, X, h => by cases h
  | p :: r, hl, l, X, h => by
    simp only [look] at h
    split at h
    · rename_i e; subst e; cases h; exact hl p (by simp)
    · exact look_of_all (fun q hq => hl q (by simp [hq])) l X h
theorem retM_of {fn : Func} {Q : List AV → List (Nat × LV) → Prop} (rs : List AV) (L : List (Nat × LV)) (hr : ResVarsA P A fn.results.toList rs) (hl : ∀ p ∈ L, look A.locs p.1 = some p.2) (hq : Q rs L) : retM P fn Q .ret A :=
  ⟨rs, L, hr, look_of_all hl, hq⟩
theorem retM_of' {fn : Func} {Q : List AV → List (Nat × LV) → Prop} (rs : List AV) (L : List (Nat × LV)) (hr : ResVarsA P A fn.results.toList rs) (hl : ∀ p ∈ L, look A.locs p.1 = some p.2) (hq : Q rs L) : retM P fn Q .normal A :=
  ⟨rs, L, hr, look_of_all hl, hq⟩
inductive LesD : List AV → List AV → Prop
  | nil : LesD [] []
  | cons {x y : AV} {xs ys : List AV} (h : Le x y) (t : LesD xs ys) : LesD (x :: xs) (y :: ys)
theorem lle_cellsD {e : TypeId} {cs cs' : List AV} (h : LesD cs cs') : LLe (.cells e cs) (.cells e cs') := by
  refine ⟨rfl, ?_, ?_⟩
  · induction h with
    | nil => rfl
    | cons _ _ ih => simp [ih]
  · induction h with
    | nil => intro i x y h1; simp at h1
    | cons h t ih =>
      intro i x y h1 h2
      cases i with
      | zero => simp at h1 h2; subst h1; subst h2; exact h
      | succ i => exact ih i x y (by simpa using h1) (by simpa using h2)
end Go.Proofs.Ytbamjcnhmmgnlaa.AL
set_option linter.unusedSimpArgs false
set_option linter.unusedVariables false
namespace Go.Proofs.Ytbamjcnhmmgnlaa.AL
variable {P : Program} {nt : Nat} {Q : Exit → ASt → Prop} {A : ASt}
end Go.Proofs.Ytbamjcnhmmgnlaa.AL
set_option linter.unusedSimpArgs false
set_option linter.unusedVariables false
namespace Go.Proofs.Ytbamjcnhmmgnlaa
open Go.Proofs.Ytbamjcnhmmgnlaa.AL
end Go.Proofs.Ytbamjcnhmmgnlaa
set_option linter.unusedSimpArgs false
set_option linter.unusedVariables false
namespace Go.Proofs.Ytbamjcnhmmgnlaa
open Go.Proofs.Ytbamjcnhmmgnlaa.AL
end Go.Proofs.Ytbamjcnhmmgnlaa
set_option linter.unusedSimpArgs false
set_option linter.unusedVariables false
namespace Go.Proofs.Ytbamjcnhmmgnlaa
open Go.Proofs.Ytbamjcnhmmgnlaa.AL
theorem rowC_at (L : List Cube) (i : Nat) : rowC L i = cb (L.getD i ⟨0, 0⟩) := rfl
theorem Clip_c (n : Nat) (f : Nat → List Dat) (hn : n ≤ 140737488355328) : ACalls Try.prog 54 [.d (.sl 4 n f)] (· = [.d (.sl 4 n f)]) := by
  refine q11 Try.func54 rfl (by decide +kernel) (by rw [Try.ntmps54]; simp) ?_; rw [Try.ntmps54]; simp only [frOf]
  (repeat (first | refine j0 ?_ | refine q7 rfl ?_ | refine z7 rfl ?_ | refine x6 ?_ | (refine z5 fun K hK => ?_) | (refine j5 (by kernel_rfl) (by kernel_rfl) fun K hK => ?_) | ((first | refine q6 ?_ | refine z6 ?_ | ((first | refine z3 (hK _ ?_) | refine j4 (hK _ _ (z4 (by kernel_rfl)) ?_)); clear hK K)); (first | show AWP _ _ _ _ _ | ((try simp only [j6]); first | show loopQ _ _ _ _ _ _ | show cutQ _ _ _ _ | show AWP _ _ _ _ _))) | ((first | refine x7 [] rfl ?_ | refine j7 [] rfl ?_); simp (maxSteps := 2000000) (disch := omega) only [go_sem, seval, hd, cb, eqty25, q9]; (repeat (first | refine ⟨by omega, ?_⟩ | refine ⟨True.intro, ?_⟩)))))
  refine j8 ⟨_, ?_, rfl⟩; rw [Try.results54]; simp (disch := omega) only [ResVars, ResVar, ptrLoc, go_sem, seval, hd, cb, eqty25, q9]
  rfl
theorem eqI_cb (a b : Cube) : eqI [hi a.v, lo a.v, hi a.c, lo a.c] [hi b.v, lo b.v, hi b.c, lo b.c] = (a == b) := by
  have h1 := eqI_hd a.v b.v
  have h2 := eqI_hd a.c b.c
  simp only [eqI, Bool.and_true] at h1 h2 ⊢
  rw [← Bool.and_assoc, h1, h2]
  cases a; cases b
  rw [Bool.eq_iff_iff]
  simp
end Go.Proofs.Ytbamjcnhmmgnlaa
set_option linter.unusedSimpArgs false
set_option linter.unusedVariables false
namespace Go.Proofs.Ytbamjcnhmmgnlaa
open Go.Proofs.Ytbamjcnhmmgnlaa.AL
theorem rowC_put (out : List Cube) (c : Cube) (i : Nat) (hlt : i < out.length + 1) : catF out.length (rowC out) (fun i => [cb c].getD i []) i = rowC (out ++ [c]) i := by
  unfold catF rowC
  by_cases h : i < out.length
  · simp only [if_pos h, List.getD_eq_getElem?_getD, List.getElem?_append_left h]
  · have : i = out.length := by omega
    subst this
    simp
end Go.Proofs.Ytbamjcnhmmgnlaa
set_option linter.unusedSimpArgs false
set_option linter.unusedVariables false
namespace Go.Proofs.Ytbamjcnhmmgnlaa
open Go Go.Proofs.Ytbamjcnhmmgnlaa.AL
def addC (L : List Cube) (k : Cube) : List Cube := if L.contains k then L else L ++ [k]
def keyC (k : Cube) : List Int := [hi k.v, lo k.v, hi k.c, lo k.c]
def seenM (L : List Cube) : List (List Int × PV) := L.map fun k => (keyC k, .d (.v (.bool true)))
def lstA (L : List Cube) : LV := .cells 127 [.ow 1002 L.length 4 L.length, .mp 1001]
def lstL (L : List Cube) : List (Nat × LV) := [(1000, lstA L), (1001, .map [.u64, .u64, .u64, .u64] (seenM L)), (1002, .own 27 4 L.length L.length (rowC L))]
theorem eqI_rfl : ∀ l : List Int, eqI l l = true
  | [] => rfl
  | x :: l => by simp [eqI, eqI_rfl l]
theorem keyC_inj {a b : Cube} (h : keyC a = keyC b) : a = b := by
  have e := eqI_cb a b
  have h' : [hi a.v, lo a.v, hi a.c, lo a.c] = [hi b.v, lo b.v, hi b.c, lo b.c] := h
  rw [h', eqI_rfl] at e
  simpa using e.symm
theorem findM_none {k : Cube} : ∀ {L : List Cube}, k ∉ L → findM (keyC k) (seenM L) = none
  | [], _ => rfl
  | x :: L, h => by
    have ih := findM_none (k := k) (L := L) (fun e => h (by simp [e]))
    unfold seenM at ih ⊢
    simp only [List.map_cons, findM]
    rw [if_neg (fun e => h (by simp [keyC_inj e]))]
    exact ih
theorem findM_some {k : Cube} : ∀ {L : List Cube}, k ∈ L → findM (keyC k) (seenM L) = some (.d (.v (.bool true)))
  | x :: L, h => by
    unfold seenM
    simp only [List.map_cons, findM]
    split
    · rfl
    · rename_i e
      have : k ∈ L := by
        rcases List.mem_cons.1 h with h | h
        · exact absurd (by rw [h]) e
        · exact h
      exact findM_some this
theorem putM_new {k : Cube} : ∀ {L : List Cube}, k ∉ L → putM (keyC k) (.d (.v (.bool true))) (seenM L) = seenM (L ++ [k])
  | [], _ => rfl
  | x :: L, h => by
    have ih := putM_new (k := k) (L := L) (fun e => h (by simp [e]))
    unfold seenM at ih ⊢
    simp only [List.map_cons, List.cons_append, putM]
    rw [if_neg (fun e => h (by simp [keyC_inj e])), ih]
set_option maxRecDepth 100000 in
theorem add_old (L : List Cube) (k : Cube) (h : k ∈ L) : MCalls Try.prog 51 [.loc 1000 0, .p (.agg (cb k))] (lstL L) (fun rs M => rs = [] ∧ M = lstL L) := by
  have hf := findM_some h
  unfold keyC at hf
  unfold lstL lstA
  refine mcalls_of_awp Try.func51 rfl (by decide +kernel) (by rw [Try.ntmps51]; simp) (fun l X h => by simp only [AL.look] at h; (repeat' split at h); all_goals first | omega | cases h) ?_; rw [Try.ntmps51]; simp only [frA]
  (repeat (first | refine j0 ?_ | refine q7 rfl ?_ | refine z7 rfl ?_ | refine x6 ?_ | (refine z5 fun K hK => ?_) | (refine j5 (by kernel_rfl) (by kernel_rfl) fun K hK => ?_) | ((first | refine q6 ?_ | refine z6 ?_ | ((first | refine z3 (hK _ ?_) | refine j4 (hK _ _ (z4 (by kernel_rfl)) ?_)); clear hK K)); (first | show AWP _ _ _ _ _ | ((try simp only [j6]); first | show loopQ _ _ _ _ _ _ | show cutQ _ _ _ _ | show AWP _ _ _ _ _))) | ((first | refine x7 [] rfl ?_ | refine j7 [] rfl ?_); simp (maxSteps := 2000000) (disch := omega) only [go_sem, seval, hd, cb, hf]; (repeat (first | refine ⟨by omega, ?_⟩ | refine ⟨keyTy_cube, ?_⟩)))))
  refine q6 (retM_of' [] (lstL L) trivial ?_ ⟨rfl, rfl⟩)
  simp [AL.look, lstL, lstA]
set_option maxRecDepth 100000 in
theorem add_new (L : List Cube) (k : Cube) (h : k ∉ L) (hl : L.length ≤ 1073741824) : MCalls Try.prog 51 [.loc 1000 0, .p (.agg (cb k))] (lstL L) (fun rs M => rs = [] ∧ M = lstL (L ++ [k])) := by
  have hf := findM_none h
  have hp := putM_new h
  have hn : (L ++ [k]).length = L.length + 1 := by simp
  refine MCalls.out (M := [(1000, .cells 127 [.ow 1002 (L.length + 1) 4 (L.length + 1), .mp 1001]), (1001, .map [.u64, .u64, .u64, .u64] (seenM (L ++ [k]))), (1002, .own 27 4 (L.length + 1) (L.length + 1) (catF L.length (rowC L) fun i => [cb k].getD i []))]) ?_ ?_
  · unfold keyC at hf hp
    unfold lstL lstA
    refine mcalls_of_awp Try.func51 rfl (by decide +kernel) (by rw [Try.ntmps51]; simp) (fun l X h => by simp only [AL.look] at h; (repeat' split at h); all_goals first | omega | cases h) ?_; rw [Try.ntmps51]; simp only [frA]
    (repeat (first | refine j0 ?_ | refine q7 rfl ?_ | refine z7 rfl ?_ | refine x6 ?_ | (refine z5 fun K hK => ?_) | (refine j5 (by kernel_rfl) (by kernel_rfl) fun K hK => ?_) | ((first | refine q6 ?_ | refine z6 ?_ | ((first | refine z3 (hK _ ?_) | refine j4 (hK _ _ (z4 (by kernel_rfl)) ?_)); clear hK K)); (first | show AWP _ _ _ _ _ | ((try simp only [j6]); first | show loopQ _ _ _ _ _ _ | show cutQ _ _ _ _ | show AWP _ _ _ _ _))) | ((first | refine x7 [] rfl ?_ | refine j7 [] rfl ?_); simp (maxSteps := 2000000) (disch := omega) only [go_sem, seval, hd, cb, hf, hp]; (repeat (first | refine ⟨by omega, ?_⟩ | refine ⟨keyTy_cube, ?_⟩)))))
    refine j4 (hK _ _ (z4 (by kernel_rfl)) ?_)
    refine retM_of' [] _ trivial ?_ ⟨rfl, rfl⟩
    simp [AL.look, cb]
  · unfold lstL lstA
    rw [hn]
    exact .cons rfl (LLe.refl _) (.cons rfl (LLe.refl _) (.cons rfl (lle_own rfl rfl fun i hi => rowC_put L k i hi) (.nil _)))
set_option maxRecDepth 100000 in
theorem add_c (L : List Cube) (k : Cube) (hl : L.length ≤ 1073741824) : MCalls Try.prog 51 [.loc 1000 0, .p (.agg (cb k))] (lstL L) (fun rs M => rs = [] ∧ M = lstL (addC L k)) := by
  unfold addC
  by_cases h : k ∈ L
  · rw [if_pos (by simpa using h)]; exact add_old L k h
  · rw [if_neg (by simpa using h)]; exact add_new L k h hl
theorem addC_len (L : List Cube) (k : Cube) : (addC L k).length ≤ L.length + 1 := by
  unfold addC; split <;> simp
end Go.Proofs.Ytbamjcnhmmgnlaa
set_option linter.unusedSimpArgs false
set_option linter.unusedVariables false
namespace Go.Proofs.Ytbamjcnhmmgnlaa
open Go.Proofs.Ytbamjcnhmmgnlaa.AL
def errF (f : Nat → Int) : Nat → Nat → Int
  | 0, _ => 0
  | m + 1, i => if f i = 0 then errF f m (i + 1) else f i
theorem errF_step {f : Nat → Int} {n i : Nat} (h : i < n) : errF f (n - i) i = if f i = 0 then errF f (n - (i + 1)) (i + 1) else f i := by
  rw [show n - i = (n - (i + 1)) + 1 by omega]; rfl
theorem errF_done {f : Nat → Int} {n i : Nat} (h : n ≤ i) : errF f (n - i) i = 0 := by
  rw [show n - i = 0 by omega]; rfl
def polE (c : Config) : Int := if sizesC c = false then 4 else if policyC c = false then 2 else 0
def tabE (c : Config) (i : Nat) : Int := soundTab (c.tb.getD i []) (c.tp.getD i [])
def soundC (c : Config) : Int := if soundT c.tp ≠ 0 then soundT c.tp else if polE c ≠ 0 then polE c else if c.tb.length ≠ c.tp.length then 4 else errF (tabE c) c.tb.length 0
def soundCI (c : Config) (R : Int) (s : {i : Nat // i ≤ c.tb.length ∧ errF (tabE c) (c.tb.length - i) i = R}) : ASt :=
  ⟨[(33, .p (.d (.v (.int .i64 (s.val : Int))))), (32, .p (.d (.v (.int .i64 (c.tb.length : Int))))), (31, .p (.d (.sl 1 c.tb.length (rowTT c.tb)))), (1, .p (.d (.bx (configD c))))], []⟩
set_option maxRecDepth 100000 in
set_option maxHeartbeats 4000000 in
theorem SoundC_c (c : Config) (hc : c.small) : ACalls Try.prog 47 [.agg (configD c)] (· = [.d (.v (.int .i64 (soundC c)))]) := by
  have s1 := SoundT_c c.tp hc.tp
  have s2 := sizes_c c hc
  have s3 := policy_c c hc
  have htp := hc.tp
  have hat := hc.at
  have hb := hc.tb
  have hb2 := hc.tp.1
  unfold soundC polE
  simp only [topoD] at s1
  simp only [configD] at s2 s3
  generalize soundT c.tp = e1 at s1
  generalize sizesC c = b2 at s2
  generalize policyC c = b3 at s3
  by_cases h1 : e1 = 0
  · subst h1
    rw [if_neg (by decide)]
    cases b2
    · simp only [if_true]
      rw [if_pos (by decide)]
      refine q11 Try.func47 rfl (by decide +kernel) (by rw [Try.ntmps47]; simp) ?_; rw [Try.ntmps47]; simp only [frOf]
      (repeat (first | refine j0 ?_ | refine q7 rfl ?_ | refine z7 rfl ?_ | refine x6 ?_ | (refine z5 fun K hK => ?_) | (refine j5 (by kernel_rfl) (by kernel_rfl) fun K hK => ?_) | ((first | refine q6 ?_ | refine z6 ?_ | ((first | refine z3 (hK _ ?_) | refine j4 (hK _ _ (z4 (by kernel_rfl)) ?_)); clear hK K)); (first | show AWP _ _ _ _ _ | ((try simp only [j6]); first | show loopQ _ _ _ _ _ _ | show cutQ _ _ _ _ | show AWP _ _ _ _ _))) | ((first | refine z9 rfl rfl rfl ?_ | refine x9 rfl rfl rfl ?_); simp (maxSteps := 2000000) (disch := omega) only [go_sem, seval, policyD, wayD, pairD, spotD, topoD, configD, j10]; (first | refine ⟨_, s1, ?_⟩ | refine ⟨_, s2, ?_⟩ | refine ⟨_, s3, ?_⟩)) | ((first | refine x7 [] rfl ?_ | refine j7 [] rfl ?_); simp (maxSteps := 2000000) (disch := omega) only [go_sem, seval, policyD, wayD, pairD, spotD, topoD, configD, j10]; (repeat (first | refine ⟨by omega, ?_⟩ | refine ⟨True.intro, ?_⟩)))))
      refine j8 ⟨_, ?_, rfl⟩; rw [Try.results47]; simp (disch := omega) only [ResVars, ResVar, ptrLoc, go_sem, seval, policyD, wayD, pairD, spotD, topoD, configD, j10]
    · cases b3
      · simp only [if_true, Bool.true_eq_false, if_false]
        rw [if_pos (by decide)]
        refine q11 Try.func47 rfl (by decide +kernel) (by rw [Try.ntmps47]; simp) ?_; rw [Try.ntmps47]; simp only [frOf]
        (repeat (first | refine j0 ?_ | refine q7 rfl ?_ | refine z7 rfl ?_ | refine x6 ?_ | (refine z5 fun K hK => ?_) | (refine j5 (by kernel_rfl) (by kernel_rfl) fun K hK => ?_) | ((first | refine q6 ?_ | refine z6 ?_ | ((first | refine z3 (hK _ ?_) | refine j4 (hK _ _ (z4 (by kernel_rfl)) ?_)); clear hK K)); (first | show AWP _ _ _ _ _ | ((try simp only [j6]); first | show loopQ _ _ _ _ _ _ | show cutQ _ _ _ _ | show AWP _ _ _ _ _))) | ((first | refine z9 rfl rfl rfl ?_ | refine x9 rfl rfl rfl ?_); simp (maxSteps := 2000000) (disch := omega) only [go_sem, seval, policyD, wayD, pairD, spotD, topoD, configD, j10]; (first | refine ⟨_, s1, ?_⟩ | refine ⟨_, s2, ?_⟩ | refine ⟨_, s3, ?_⟩)) | ((first | refine x7 [] rfl ?_ | refine j7 [] rfl ?_); simp (maxSteps := 2000000) (disch := omega) only [go_sem, seval, policyD, wayD, pairD, spotD, topoD, configD, j10]; (repeat (first | refine ⟨by omega, ?_⟩ | refine ⟨True.intro, ?_⟩)))))
        refine j8 ⟨_, ?_, rfl⟩; rw [Try.results47]; simp (disch := omega) only [ResVars, ResVar, ptrLoc, go_sem, seval, policyD, wayD, pairD, spotD, topoD, configD, j10]
      · simp only [if_true, Bool.true_eq_false, if_false]
        rw [if_neg (by decide)]
        by_cases h4 : c.tb.length = c.tp.length
        · rw [if_neg (by omega)]
          have q : ((c.tb.length : Int) != (c.tp.length : Int)) = false := ine_ff (by omega)
          generalize hR : errF (tabE c) c.tb.length 0 = R
          refine q11 Try.func47 rfl (by decide +kernel) (by rw [Try.ntmps47]; simp) ?_; rw [Try.ntmps47]; simp only [frOf]
          (repeat (first | refine j0 ?_ | refine q7 rfl ?_ | refine z7 rfl ?_ | refine x6 ?_ | (refine z5 fun K hK => ?_) | (refine j5 (by kernel_rfl) (by kernel_rfl) fun K hK => ?_) | ((first | refine q6 ?_ | refine z6 ?_ | ((first | refine z3 (hK _ ?_) | refine j4 (hK _ _ (z4 (by kernel_rfl)) ?_)); clear hK K)); (first | show AWP _ _ _ _ _ | ((try simp only [j6]); first | show loopQ _ _ _ _ _ _ | show cutQ _ _ _ _ | show AWP _ _ _ _ _))) | ((first | refine z9 rfl rfl rfl ?_ | refine x9 rfl rfl rfl ?_); simp (maxSteps := 2000000) (disch := omega) only [go_sem, seval, policyD, wayD, pairD, spotD, topoD, configD, j10, q]; (first | refine ⟨_, s1, ?_⟩ | refine ⟨_, s2, ?_⟩ | refine ⟨_, s3, ?_⟩)) | ((first | refine x7 [] rfl ?_ | refine j7 [] rfl ?_); simp (maxSteps := 2000000) (disch := omega) only [go_sem, seval, policyD, wayD, pairD, spotD, topoD, configD, j10, q]; (repeat (first | refine ⟨by omega, ?_⟩ | refine ⟨True.intro, ?_⟩)))))
          refine awp_loop (soundCI c R) (fun s => c.tb.length - s.val) ⟨0, Nat.zero_le _, hR⟩ ?_ (fun s => ?_)
          · unfold soundCI
            refine Weak.list ?_ ?_; (all_goals simp (disch := omega) only [AllF, AllL, q10, z10, j9, exists_eq_left', Option.some.injEq, go_sem, seval, policyD, wayD, pairD, spotD, topoD, configD, j10]); (all_goals (repeat' (with_reducible apply And.intro))); (all_goals try (first | exact q8 rfl | (refine x10 ?_; omega) | (refine q8 ?_; simp; done)))
          obtain ⟨i, hi, hr⟩ := s
          unfold soundCI
          simp only [] at hi hr ⊢
          by_cases h : i < c.tb.length
          · rw [errF_step h] at hr
            have r1 := rowTT_at c.tb i
            have r2 := rowPP_at c.tp i
            have ct := SoundTab_c (c.tb.getD i []) (c.tp.getD i []) (hat i) (small_at htp i)
            have hte : tabE c i = soundTab (c.tb.getD i []) (c.tp.getD i []) := rfl
            rw [hte] at hr
            have l1 := small_at htp i
            have l2 := (hat i).1
            generalize soundTab (c.tb.getD i []) (c.tp.getD i []) = e at hr ct
            generalize c.tb.getD i [] = ts at r1 ct l2
            generalize c.tp.getD i [] = ps at r2 ct l1
            by_cases he : e = 0
            · subst he
              rw [if_pos rfl] at hr
              (repeat (first | refine j0 ?_ | refine q7 rfl ?_ | refine z7 rfl ?_ | refine x6 ?_ | (refine z5 fun K hK => ?_) | (refine j5 (by kernel_rfl) (by kernel_rfl) fun K hK => ?_) | ((first | refine q6 ?_ | refine z6 ?_ | ((first | refine z3 (hK _ ?_) | refine j4 (hK _ _ (z4 (by kernel_rfl)) ?_)); clear hK K)); (first | show AWP _ _ _ _ _ | ((try simp only [j6]); first | show loopQ _ _ _ _ _ _ | show cutQ _ _ _ _ | show AWP _ _ _ _ _))) | ((first | refine z9 rfl rfl rfl ?_ | refine x9 rfl rfl rfl ?_); simp (maxSteps := 2000000) (disch := omega) only [go_sem, seval, policyD, wayD, pairD, spotD, topoD, configD, j10, r1, r2]; (first | refine ⟨_, ct, ?_⟩)) | ((first | refine x7 [] rfl ?_ | refine j7 [] rfl ?_); simp (maxSteps := 2000000) (disch := omega) only [go_sem, seval, policyD, wayD, pairD, spotD, topoD, configD, j10, r1, r2]; (repeat (first | refine ⟨by omega, ?_⟩ | refine ⟨True.intro, ?_⟩)))))
              refine ⟨⟨i + 1, by omega, hr⟩, by simp only []; omega, ?_⟩
              refine Weak.list ?_ ?_; (all_goals simp (disch := omega) only [AllF, AllL, q10, z10, j9, exists_eq_left', Option.some.injEq, go_sem, seval, policyD, wayD, pairD, spotD, topoD, configD, j10, r1, r2]); (all_goals (repeat' (with_reducible apply And.intro))); (all_goals try (first | exact q8 rfl | (refine x10 ?_; omega) | (refine q8 ?_; simp; done)))
            · rw [if_neg he] at hr
              have q2 : (e != 0) = true := ine_tt he
              subst hr
              (repeat (first | refine j0 ?_ | refine q7 rfl ?_ | refine z7 rfl ?_ | refine x6 ?_ | (refine z5 fun K hK => ?_) | (refine j5 (by kernel_rfl) (by kernel_rfl) fun K hK => ?_) | ((first | refine q6 ?_ | refine z6 ?_ | ((first | refine z3 (hK _ ?_) | refine j4 (hK _ _ (z4 (by kernel_rfl)) ?_)); clear hK K)); (first | show AWP _ _ _ _ _ | ((try simp only [j6]); first | show loopQ _ _ _ _ _ _ | show cutQ _ _ _ _ | show AWP _ _ _ _ _))) | ((first | refine z9 rfl rfl rfl ?_ | refine x9 rfl rfl rfl ?_); simp (maxSteps := 2000000) (disch := omega) only [go_sem, seval, policyD, wayD, pairD, spotD, topoD, configD, j10, r1, r2, q2]; (first | refine ⟨_, ct, ?_⟩)) | ((first | refine x7 [] rfl ?_ | refine j7 [] rfl ?_); simp (maxSteps := 2000000) (disch := omega) only [go_sem, seval, policyD, wayD, pairD, spotD, topoD, configD, j10, r1, r2, q2]; (repeat (first | refine ⟨by omega, ?_⟩ | refine ⟨True.intro, ?_⟩)))))
              refine j8 ⟨_, ?_, rfl⟩; rw [Try.results47]; simp (disch := omega) only [ResVars, ResVar, ptrLoc, go_sem, seval, policyD, wayD, pairD, spotD, topoD, configD, j10, r1, r2, q2]
          · rw [errF_done (show c.tb.length ≤ i by omega)] at hr
            subst hr
            (repeat (first | refine j0 ?_ | refine q7 rfl ?_ | refine z7 rfl ?_ | refine x6 ?_ | (refine z5 fun K hK => ?_) | (refine j5 (by kernel_rfl) (by kernel_rfl) fun K hK => ?_) | ((first | refine q6 ?_ | refine z6 ?_ | ((first | refine z3 (hK _ ?_) | refine j4 (hK _ _ (z4 (by kernel_rfl)) ?_)); clear hK K)); (first | show AWP _ _ _ _ _ | ((try simp only [j6]); first | show loopQ _ _ _ _ _ _ | show cutQ _ _ _ _ | show AWP _ _ _ _ _))) | ((first | refine x7 [] rfl ?_ | refine j7 [] rfl ?_); simp (maxSteps := 2000000) (disch := omega) only [go_sem, seval, policyD, wayD, pairD, spotD, topoD, configD, j10]; (repeat (first | refine ⟨by omega, ?_⟩ | refine ⟨True.intro, ?_⟩)))))
            refine j8 ⟨_, ?_, rfl⟩; rw [Try.results47]; simp (disch := omega) only [ResVars, ResVar, ptrLoc, go_sem, seval, policyD, wayD, pairD, spotD, topoD, configD, j10]
        · rw [if_pos h4]
          have q : ((c.tb.length : Int) != (c.tp.length : Int)) = true := ine_tt (by omega)
          refine q11 Try.func47 rfl (by decide +kernel) (by rw [Try.ntmps47]; simp) ?_; rw [Try.ntmps47]; simp only [frOf]
          (repeat (first | refine j0 ?_ | refine q7 rfl ?_ | refine z7 rfl ?_ | refine x6 ?_ | (refine z5 fun K hK => ?_) | (refine j5 (by kernel_rfl) (by kernel_rfl) fun K hK => ?_) | ((first | refine q6 ?_ | refine z6 ?_ | ((first | refine z3 (hK _ ?_) | refine j4 (hK _ _ (z4 (by kernel_rfl)) ?_)); clear hK K)); (first | show AWP _ _ _ _ _ | ((try simp only [j6]); first | show loopQ _ _ _ _ _ _ | show cutQ _ _ _ _ | show AWP _ _ _ _ _))) | ((first | refine z9 rfl rfl rfl ?_ | refine x9 rfl rfl rfl ?_); simp (maxSteps := 2000000) (disch := omega) only [go_sem, seval, policyD, wayD, pairD, spotD, topoD, configD, j10, q]; (first | refine ⟨_, s1, ?_⟩ | refine ⟨_, s2, ?_⟩ | refine ⟨_, s3, ?_⟩)) | ((first | refine x7 [] rfl ?_ | refine j7 [] rfl ?_); simp (maxSteps := 2000000) (disch := omega) only [go_sem, seval, policyD, wayD, pairD, spotD, topoD, configD, j10, q]; (repeat (first | refine ⟨by omega, ?_⟩ | refine ⟨True.intro, ?_⟩)))))
          refine j8 ⟨_, ?_, rfl⟩; rw [Try.results47]; simp (disch := omega) only [ResVars, ResVar, ptrLoc, go_sem, seval, policyD, wayD, pairD, spotD, topoD, configD, j10, q]
  · rw [if_pos h1]
    have q : (e1 != 0) = true := ine_tt h1
    refine q11 Try.func47 rfl (by decide +kernel) (by rw [Try.ntmps47]; simp) ?_; rw [Try.ntmps47]; simp only [frOf]
    (repeat (first | refine j0 ?_ | refine q7 rfl ?_ | refine z7 rfl ?_ | refine x6 ?_ | (refine z5 fun K hK => ?_) | (refine j5 (by kernel_rfl) (by kernel_rfl) fun K hK => ?_) | ((first | refine q6 ?_ | refine z6 ?_ | ((first | refine z3 (hK _ ?_) | refine j4 (hK _ _ (z4 (by kernel_rfl)) ?_)); clear hK K)); (first | show AWP _ _ _ _ _ | ((try simp only [j6]); first | show loopQ _ _ _ _ _ _ | show cutQ _ _ _ _ | show AWP _ _ _ _ _))) | ((first | refine z9 rfl rfl rfl ?_ | refine x9 rfl rfl rfl ?_); simp (maxSteps := 2000000) (disch := omega) only [go_sem, seval, policyD, wayD, pairD, spotD, topoD, configD, j10, q]; (first | refine ⟨_, s1, ?_⟩)) | ((first | refine x7 [] rfl ?_ | refine j7 [] rfl ?_); simp (maxSteps := 2000000) (disch := omega) only [go_sem, seval, policyD, wayD, pairD, spotD, topoD, configD, j10, q]; (repeat (first | refine ⟨by omega, ?_⟩ | refine ⟨True.intro, ?_⟩)))))
    refine j8 ⟨_, ?_, rfl⟩; rw [Try.results47]; simp (disch := omega) only [ResVars, ResVar, ptrLoc, go_sem, seval, policyD, wayD, pairD, spotD, topoD, configD, j10, q]
end Go.Proofs.Ytbamjcnhmmgnlaa
set_option linter.unusedSimpArgs false
set_option linter.unusedVariables false
namespace Go.Proofs.Ytbamjcnhmmgnlaa
open Go.Proofs.Ytbamjcnhmmgnlaa.AL
def spotI (l : List Spot) (x : Spot) (q : Nat → Bool) (R : Int) (s : {i : Nat // i ≤ l.length ∧ idxN q (l.length - i) i = R}) : ASt :=
  ⟨[(8, .p (.d (.v (.int .i64 (s.val : Int))))), (7, .p (.d (.v (.int .i64 (l.length : Int))))), (3, .p (.d (.bx (spotD x)))), (0, .p (.d (.sl 2 l.length (rowS l))))], []⟩
theorem eqI_spot (a b : Spot) : eqI [a.sw, a.po] [b.sw, b.po] = (a == b) := by
  obtain ⟨a1, a2⟩ := a
  obtain ⟨b1, b2⟩ := b
  rw [Bool.eq_iff_iff]
  simp [eqI]
set_option maxHeartbeats 1000000 in
theorem IndexS_c (l : List Spot) (x : Spot) (hl : l.length ≤ 1099511627776) :
    ACalls Try.prog 111 [.d (.sl 2 l.length (rowS l)), .agg (spotD x)] (· = [.d (.v (.int .i64 (idxN (fun i => x == l.getD i s0) l.length 0)))]) := by
  have hstep := fun i (h : i < l.length) => idxN_step (q := fun i => x == l.getD i s0) h
  have hq : ∀ i, (fun i => x == l.getD i s0) i = (x == l.getD i s0) := fun i => rfl
  generalize (fun i => x == l.getD i s0) = q at hstep hq
  generalize hR : idxN q l.length 0 = R
  refine q11 Try.func111 rfl (by decide +kernel) (by rw [Try.ntmps111]; simp) ?_; rw [Try.ntmps111]; simp only [frOf]
  (repeat (first | refine j0 ?_ | refine q7 rfl ?_ | refine z7 rfl ?_ | refine x6 ?_ | (refine z5 fun K hK => ?_) | (refine j5 (by kernel_rfl) (by kernel_rfl) fun K hK => ?_) | ((first | refine q6 ?_ | refine z6 ?_ | ((first | refine z3 (hK _ ?_) | refine j4 (hK _ _ (z4 (by kernel_rfl)) ?_)); clear hK K)); (first | show AWP _ _ _ _ _ | ((try simp only [j6]); first | show loopQ _ _ _ _ _ _ | show cutQ _ _ _ _ | show AWP _ _ _ _ _))) | ((first | refine x7 [] rfl ?_ | refine j7 [] rfl ?_); simp (maxSteps := 2000000) (disch := omega) only [go_sem, seval, policyD, wayD, spotD, j10]; (repeat (first | refine ⟨by omega, ?_⟩ | refine ⟨True.intro, ?_⟩)))))
  refine awp_loop (spotI l x q R) (fun s => l.length - s.val) ⟨0, Nat.zero_le _, hR⟩ ?_ (fun s => ?_)
  · unfold spotI
    refine Weak.list ?_ ?_; (all_goals simp (disch := omega) only [AllF, AllL, q10, z10, j9, exists_eq_left', Option.some.injEq, go_sem, seval, policyD, wayD, spotD, j10]); (all_goals (repeat' (with_reducible apply And.intro))); (all_goals try (first | exact q8 rfl | (refine x10 ?_; omega) | (refine q8 ?_; simp; done)))
  obtain ⟨i, h1, h2⟩ := s
  unfold spotI
  simp only [] at h1 h2 ⊢
  by_cases h : i < l.length
  · have r1 := rowS_at l i
    rw [hstep i h] at h2
    generalize l.getD i s0 = y at r1 h2
    have e := eqI_spot x y
    generalize (x == y) = b at e h2
    simp only [spotD] at r1
    cases b
    · simp only [Bool.false_eq_true, if_false] at h2
      (repeat (first | refine j0 ?_ | refine q7 rfl ?_ | refine z7 rfl ?_ | refine x6 ?_ | (refine z5 fun K hK => ?_) | (refine j5 (by kernel_rfl) (by kernel_rfl) fun K hK => ?_) | ((first | refine q6 ?_ | refine z6 ?_ | ((first | refine z3 (hK _ ?_) | refine j4 (hK _ _ (z4 (by kernel_rfl)) ?_)); clear hK K)); (first | show AWP _ _ _ _ _ | ((try simp only [j6]); first | show loopQ _ _ _ _ _ _ | show cutQ _ _ _ _ | show AWP _ _ _ _ _))) | ((first | refine x7 [] rfl ?_ | refine j7 [] rfl ?_); simp (maxSteps := 2000000) (disch := omega) only [go_sem, seval, policyD, wayD, spotD, j10, r1, e]; (repeat (first | refine ⟨by omega, ?_⟩ | refine ⟨True.intro, ?_⟩)))))
      refine ⟨⟨i + 1, by omega, h2⟩, by simp only []; omega, ?_⟩
      refine Weak.list ?_ ?_; (all_goals simp (disch := omega) only [AllF, AllL, q10, z10, j9, exists_eq_left', Option.some.injEq, go_sem, seval, policyD, wayD, spotD, j10, r1, e]); (all_goals (repeat' (with_reducible apply And.intro))); (all_goals try (first | exact q8 rfl | (refine x10 ?_; omega) | (refine q8 ?_; simp; done)))
    · simp only [if_true] at h2
      subst h2
      (repeat (first | refine j0 ?_ | refine q7 rfl ?_ | refine z7 rfl ?_ | refine x6 ?_ | (refine z5 fun K hK => ?_) | (refine j5 (by kernel_rfl) (by kernel_rfl) fun K hK => ?_) | ((first | refine q6 ?_ | refine z6 ?_ | ((first | refine z3 (hK _ ?_) | refine j4 (hK _ _ (z4 (by kernel_rfl)) ?_)); clear hK K)); (first | show AWP _ _ _ _ _ | ((try simp only [j6]); first | show loopQ _ _ _ _ _ _ | show cutQ _ _ _ _ | show AWP _ _ _ _ _))) | ((first | refine x7 [] rfl ?_ | refine j7 [] rfl ?_); simp (maxSteps := 2000000) (disch := omega) only [go_sem, seval, policyD, wayD, spotD, j10, r1, e]; (repeat (first | refine ⟨by omega, ?_⟩ | refine ⟨True.intro, ?_⟩)))))
      refine j8 ⟨_, ?_, rfl⟩; rw [Try.results111]; simp (disch := omega) only [ResVars, ResVar, ptrLoc, go_sem, seval, policyD, wayD, spotD, j10, r1, e]
  · rw [idxN_done (by omega)] at h2
    subst h2
    (repeat (first | refine j0 ?_ | refine q7 rfl ?_ | refine z7 rfl ?_ | refine x6 ?_ | (refine z5 fun K hK => ?_) | (refine j5 (by kernel_rfl) (by kernel_rfl) fun K hK => ?_) | ((first | refine q6 ?_ | refine z6 ?_ | ((first | refine z3 (hK _ ?_) | refine j4 (hK _ _ (z4 (by kernel_rfl)) ?_)); clear hK K)); (first | show AWP _ _ _ _ _ | ((try simp only [j6]); first | show loopQ _ _ _ _ _ _ | show cutQ _ _ _ _ | show AWP _ _ _ _ _))) | ((first | refine x7 [] rfl ?_ | refine j7 [] rfl ?_); simp (maxSteps := 2000000) (disch := omega) only [go_sem, seval, policyD, wayD, spotD, j10]; (repeat (first | refine ⟨by omega, ?_⟩ | refine ⟨True.intro, ?_⟩)))))
    refine j8 ⟨_, ?_, rfl⟩; rw [Try.results111]; simp (disch := omega) only [ResVars, ResVar, ptrLoc, go_sem, seval, policyD, wayD, spotD, j10]
theorem ContainsS_c (l : List Spot) (x : Spot) (hl : l.length ≤ 1099511627776) : ACalls Try.prog 83 [.d (.sl 2 l.length (rowS l)), .agg (spotD x)] (· = [.d (.v (.bool (l.contains x)))]) := by
  have c := IndexS_c l x hl
  have e := idxN_any (q := fun i => x == l.getD i s0) (m := l.length) (i := 0)
  rw [any_getD l s0 (fun y => x == y), List.any_beq] at e
  rw [← e]
  generalize idxN (fun i => x == l.getD i s0) l.length 0 = r at c
  simp only [spotD] at c
  refine q11 Try.func83 rfl (by decide +kernel) (by rw [Try.ntmps83]; simp) ?_; rw [Try.ntmps83]; simp only [frOf]
  (repeat (first | refine j0 ?_ | refine q7 rfl ?_ | refine z7 rfl ?_ | refine x6 ?_ | (refine z5 fun K hK => ?_) | (refine j5 (by kernel_rfl) (by kernel_rfl) fun K hK => ?_) | ((first | refine q6 ?_ | refine z6 ?_ | ((first | refine z3 (hK _ ?_) | refine j4 (hK _ _ (z4 (by kernel_rfl)) ?_)); clear hK K)); (first | show AWP _ _ _ _ _ | ((try simp only [j6]); first | show loopQ _ _ _ _ _ _ | show cutQ _ _ _ _ | show AWP _ _ _ _ _))) | ((first | refine z9 rfl rfl rfl ?_ | refine x9 rfl rfl rfl ?_); simp (maxSteps := 2000000) (disch := omega) only [go_sem, seval, policyD, wayD, spotD, j10]; (first | refine ⟨_, c, ?_⟩)) | ((first | refine x7 [] rfl ?_ | refine j7 [] rfl ?_); simp (maxSteps := 2000000) (disch := omega) only [go_sem, seval, policyD, wayD, spotD, j10]; (repeat (first | refine ⟨by omega, ?_⟩ | refine ⟨True.intro, ?_⟩)))))
  refine j8 ⟨_, ?_, rfl⟩; rw [Try.results83]; simp (disch := omega) only [ResVars, ResVar, ptrLoc, go_sem, seval, policyD, wayD, spotD, j10]
end Go.Proofs.Ytbamjcnhmmgnlaa
set_option linter.unusedSimpArgs false
set_option linter.unusedVariables false
namespace Go.Proofs.Ytbamjcnhmmgnlaa
open Go.Proofs.Ytbamjcnhmmgnlaa.AL
end Go.Proofs.Ytbamjcnhmmgnlaa
set_option linter.unusedSimpArgs false
set_option linter.unusedVariables false
namespace Go.Proofs.Ytbamjcnhmmgnlaa
open Go.Proofs.Ytbamjcnhmmgnlaa.AL
end Go.Proofs.Ytbamjcnhmmgnlaa
set_option linter.unusedSimpArgs false
set_option linter.unusedVariables false
namespace Go.Proofs.Ytbamjcnhmmgnlaa
open Go.Proofs.Ytbamjcnhmmgnlaa.AL
end Go.Proofs.Ytbamjcnhmmgnlaa
set_option linter.unusedSimpArgs false
set_option linter.unusedVariables false
namespace Go.Proofs.Ytbamjcnhmmgnlaa
open Go.Proofs.Ytbamjcnhmmgnlaa.AL
end Go.Proofs.Ytbamjcnhmmgnlaa
set_option linter.unusedSimpArgs false
set_option linter.unusedVariables false
namespace Go.Proofs.Ytbamjcnhmmgnlaa
open Go.Proofs.Ytbamjcnhmmgnlaa.AL
theorem ones_bit (n j : Nat) (hj : j < 128) : (ones n).getLsbD j = decide (j < n) := by
  unfold ones
  rw [BitVec.getLsbD_ofNat, Nat.testBit_two_pow_sub_one]
  simp [hj]
theorem bvi_ne (x : BitVec 64) : (bvi x != 0) = (x != 0) := by
  have := bvi_inj (a := x) (b := 0)
  rw [show bvi 0 = 0 from by decide] at this
  show (!(bvi x == 0)) = !(x == 0)
  rw [this]
theorem over_shift (b : Nat) (v : BitVec 64) (hb : b ≤ 64) : over b v = (decide (b < 64) && (bvi v / 2 ^ min b 64 != 0)) := by
  unfold over
  rw [shr_bvi]
  have e : lo (ones b) = bvi ((ones b).extractLsb' 0 64) := rfl
  rw [e, bits_andNot, bvi_ne, bvi_ne]
  have k1 : (v &&& ~~~((ones b).extractLsb' 0 64)) = 0 ↔ ∀ i, i < 64 → v.getLsbD i = true → i < b := by
    constructor
    · intro h i hi hv
      have := congrArg (fun z => z.getLsbD i) h
      simp only [BitVec.getLsbD_and, BitVec.getLsbD_not, BitVec.getLsbD_extractLsb', Nat.zero_add, ones_bit b i (by omega), hi, hv, decide_true, Bool.true_and] at this
      simpa using this
    · intro h
      apply BitVec.eq_of_getLsbD_eq
      intro i hi
      simp only [BitVec.getLsbD_and, BitVec.getLsbD_not, BitVec.getLsbD_extractLsb', Nat.zero_add, ones_bit b i (by omega), hi, decide_true, Bool.true_and]
      cases hv : v.getLsbD i
      · simp
      · simp [h i hi hv]
  have k2 : v >>> b = 0 ↔ ∀ i, i < 64 → v.getLsbD i = true → i < b := by
    constructor
    · intro h i hi hv
      refine Nat.lt_of_not_le fun hle => ?_
      have := congrArg (fun z => z.getLsbD (i - b)) h
      simp only [BitVec.getLsbD_ushiftRight, show b + (i - b) = i from by omega, hv] at this
      simp at this
    · intro h
      apply BitVec.eq_of_getLsbD_eq
      intro i hi
      rw [BitVec.getLsbD_ushiftRight]
      cases hv : v.getLsbD (b + i)
      · simp
      · have h1 : b + i < 64 := by
          refine Nat.lt_of_not_le fun hle => ?_
          rw [BitVec.getLsbD_of_ge v (b + i) hle] at hv; cases hv
        have := h (b + i) h1 hv; omega
  by_cases h64 : b < 64
  · rw [decide_eq_true h64, Bool.true_and]
    have : ((v &&& ~~~((ones b).extractLsb' 0 64)) = 0) = (v >>> b = 0) := propext (k1.trans k2.symm)
    rw [Bool.eq_iff_iff, bne_iff_ne, bne_iff_ne, ne_eq, ne_eq, this]
  · rw [decide_eq_false h64, Bool.false_and]
    have : (v &&& ~~~((ones b).extractLsb' 0 64)) = 0 := k1.2 fun i hi _ => by omega
    rw [this]; rfl
end Go.Proofs.Ytbamjcnhmmgnlaa
set_option linter.unusedSimpArgs false
set_option linter.unusedVariables false
namespace Go.Proofs.Ytbamjcnhmmgnlaa
open Go.Proofs.Ytbamjcnhmmgnlaa.AL
def wordOf (n : Int) : BitVec 64 := BitVec.ofNat 64 n.toNat
theorem wordOf_bvi {n : Int} (h1 : 0 ≤ n) (h2 : n < 9223372036854775808) : bvi (wordOf n) = n := by
  unfold bvi wordOf
  rw [BitVec.toNat_ofNat]
  omega
theorem over_small (b : Nat) (n : Int) (h1 : 0 ≤ n) (h2 : n < 2 ^ b) (hb : b ≤ 32) : over b (wordOf n) = false := by
  have hlt : n < 9223372036854775808 := Int.lt_of_lt_of_le h2 (by
    have : (2 : Int) ^ b ≤ 2 ^ 32 := by
      have h := Nat.pow_le_pow_right (show 1 ≤ 2 by decide) hb
      exact_mod_cast h
    omega)
  rw [over_shift b _ (by omega), wordOf_bvi h1 hlt, show min b 64 = b by omega, Int.ediv_eq_zero_of_lt h1 h2]
  simp
def stampV (tn v : Int) : Cube := mkC (putB (putB 0 88 24 (wordOf (tn + 1))) 112 8 (wordOf v)) (ones 40 <<< 88)
def edgesHas (t : List (List Port)) (s : Spot) : Bool := (edgesT t).contains s
def stampE (c : Config) (s : Spot) (v : Int) : Int := if soundC c ≠ 0 then soundC c else if v < 0 ∨ 255 < v then 4 else if edgesHas c.tp s = false then 7 else 0
def stampC (c : Config) (s : Spot) (v : Int) : Cube := if stampE c s v = 0 then stampV (edgeT c.tp s) v else ⟨0, 0⟩
theorem sound_ports {t : List (List Port)} (h : soundT t = 0) {i j : Nat} (hi : i < t.length) (hj : j < (t.getD i []).length) : portT t i j = true := by
  unfold soundT at h
  split at h
  · cases h
  · split at h
    · cases h
    · split at h
      · rename_i h3
        have h4 := allF_iff.1 h3 i (Nat.zero_le _) hi
        exact allF_iff.1 h4 j (Nat.zero_le _) hj
      · cases h
theorem sound_tenant {t : List (List Port)} (h : soundT t = 0) {s : Spot} (hs : s ∈ edgesT t) : 0 ≤ edgeT t s ∧ edgeT t s < 4 := by
  obtain ⟨i, j, e1, h1, h2, h3⟩ := edgesT_at hs
  obtain ⟨i', j', g1, g2, g3, g4⟩ := edgesTo_mem.1 hs
  have e2 : i' = i ∧ j' = j := by
    rw [e1] at g4
    have a1 := congrArg Spot.sw g4
    have a2 := congrArg Spot.po g4
    simp only [] at a1 a2
    omega
  obtain ⟨rfl, rfl⟩ := e2
  have hp := sound_ports h h1 h2
  rw [h3]
  unfold portT at hp
  simp only [] at hp
  rw [if_neg (by omega), if_pos g3] at hp
  simp only [Bool.and_eq_true, decide_eq_true_eq] at hp
  exact ⟨hp.1.1.1.1, hp.1.1.1.2⟩
theorem putE_small (a b n : Int) (h1 : 0 ≤ n) (h2 : n < 2 ^ b.toNat) (hb : b.toNat ≤ 32) (hf : fieldB a b 64 = true) : putE a b (wordOf n) = 0 := by
  unfold putE
  rw [hf, over_small b.toNat n h1 h2 hb]; rfl
theorem cb_none : cb ⟨0, 0⟩ = [.v (.int .u64 0), .v (.int .u64 0), .v (.int .u64 0), .v (.int .u64 0)] := by unfold cb; simp only [hi_zero, lo_zero]
set_option maxRecDepth 100000 in
set_option maxHeartbeats 4000000 in
theorem StampC_c (c : Config) (s : Spot) (v : Int) (hc : c.small) (hv : -9223372036854775808 ≤ v ∧ v < 9223372036854775808) : ACalls Try.prog 50 [.agg (configD c), .agg (spotD s), .d (.v (.int .i64 v))] (· = [.agg (cb (stampC c s v)), .d (.v (.int .i64 (stampE c s v)))]) := by
  have s1 := SoundC_c c hc
  have eb := edgesTo_len hc.tp c.tp.length
  have et := hc.tp.1
  rw [show edgesTo c.tp c.tp.length = edgesT c.tp from rfl] at eb
  have ed := EdgesT_c c.tp hc.tp
  have ct := ContainsS_c (edgesT c.tp) s (by omega)
  have fail : stampE c s v ≠ 0 → stampC c s v = ⟨0, 0⟩ := fun h => if_neg h
  simp only [configD] at s1
  simp only [topoD] at ed
  simp only [spotD] at ct
  have hst : stampE c s v = if soundC c ≠ 0 then soundC c else if v < 0 ∨ 255 < v then 4 else if (edgesT c.tp).contains s = false then 7 else 0 := rfl
  by_cases h1 : soundC c = 0
  · rw [if_neg (by omega)] at hst
    rw [h1] at s1
    by_cases h2 : v < 0 ∨ 255 < v
    · rw [if_pos h2] at hst
      rw [fail (by rw [hst]; decide), hst, cb_none]
      by_cases h3 : v < 0
      all_goals
        refine q11 Try.func50 rfl (by decide +kernel) (by rw [Try.ntmps50]; simp) ?_; rw [Try.ntmps50]; simp only [frOf]
        (repeat (first | refine j0 ?_ | refine q7 rfl ?_ | refine z7 rfl ?_ | refine x6 ?_ | (refine z5 fun K hK => ?_) | (refine j5 (by kernel_rfl) (by kernel_rfl) fun K hK => ?_) | ((first | refine q6 ?_ | refine z6 ?_ | ((first | refine z3 (hK _ ?_) | refine j4 (hK _ _ (z4 (by kernel_rfl)) ?_)); clear hK K)); (first | show AWP _ _ _ _ _ | ((try simp only [j6]); first | show loopQ _ _ _ _ _ _ | show cutQ _ _ _ _ | show AWP _ _ _ _ _))) | ((first | refine z9 rfl rfl rfl ?_ | refine x9 rfl rfl rfl ?_); simp (maxSteps := 2000000) (disch := omega) only [go_sem, seval, policyD, topoD, configD, spotD, hd, cb]; (first | refine ⟨_, s1, ?_⟩)) | ((first | refine x7 [] rfl ?_ | refine j7 [] rfl ?_); simp (maxSteps := 2000000) (disch := omega) only [go_sem, seval, policyD, topoD, configD, spotD, hd, cb]; (repeat (first | refine ⟨by omega, ?_⟩ | refine ⟨True.intro, ?_⟩)))))
        refine j8 ⟨_, ?_, rfl⟩; rw [Try.results50]; simp (disch := omega) only [ResVars, ResVar, ptrLoc, go_sem, seval, policyD, topoD, configD, spotD, hd, cb]
    · rw [if_neg h2] at hst
      cases hq : (edgesT c.tp).contains s
      · rw [hq] at ct
        rw [if_pos hq] at hst
        rw [fail (by rw [hst]; decide), hst, cb_none]
        generalize edgesT c.tp = l at ed ct
        refine q11 Try.func50 rfl (by decide +kernel) (by rw [Try.ntmps50]; simp) ?_; rw [Try.ntmps50]; simp only [frOf]
        (repeat (first | refine j0 ?_ | refine q7 rfl ?_ | refine z7 rfl ?_ | refine x6 ?_ | (refine z5 fun K hK => ?_) | (refine j5 (by kernel_rfl) (by kernel_rfl) fun K hK => ?_) | ((first | refine q6 ?_ | refine z6 ?_ | ((first | refine z3 (hK _ ?_) | refine j4 (hK _ _ (z4 (by kernel_rfl)) ?_)); clear hK K)); (first | show AWP _ _ _ _ _ | ((try simp only [j6]); first | show loopQ _ _ _ _ _ _ | show cutQ _ _ _ _ | show AWP _ _ _ _ _))) | ((first | refine z9 rfl rfl rfl ?_ | refine x9 rfl rfl rfl ?_); simp (maxSteps := 2000000) (disch := omega) only [go_sem, seval, policyD, topoD, configD, spotD, hd, cb]; (first | refine ⟨_, s1, ?_⟩ | refine ⟨_, ed, ?_⟩ | refine ⟨_, ct, ?_⟩)) | ((first | refine x7 [] rfl ?_ | refine j7 [] rfl ?_); simp (maxSteps := 2000000) (disch := omega) only [go_sem, seval, policyD, topoD, configD, spotD, hd, cb]; (repeat (first | refine ⟨by omega, ?_⟩ | refine ⟨True.intro, ?_⟩)))))
        refine j8 ⟨_, ?_, rfl⟩; rw [Try.results50]; simp (disch := omega) only [ResVars, ResVar, ptrLoc, go_sem, seval, policyD, topoD, configD, spotD, hd, cb]
      · rw [hq] at ct
        rw [if_neg (by rw [hq]; decide)] at hst
        have hs0 : soundT c.tp = 0 := by
          refine Classical.byContradiction fun h => ?_
          unfold soundC at h1
          rw [if_pos h] at h1
          exact h h1
        have hmem : s ∈ edgesT c.tp := by simpa using hq
        obtain ⟨tn1, tn2⟩ := sound_tenant hs0 hmem
        obtain ⟨i, j, e1, b1, b2, e2⟩ := edgesT_at hmem
        have hsc : stampC c s v = stampV (edgeT c.tp s) v := if_pos hst
        rw [hsc, hst]
        unfold stampV
        generalize edgeT c.tp s = tn at tn1 tn2 e2
        have hv0 : 0 ≤ v := by omega
        have p1 := Put_c 0 88 24 (wordOf (tn + 1)) (by omega)
        rw [putE_small 88 24 (tn + 1) (by omega) (by simp; omega) (by decide) (by decide), if_pos rfl, wordOf_bvi (by omega) (by omega)] at p1
        have p2 := Put_c (putB 0 (88 : Int).toNat (24 : Int).toNat (wordOf (tn + 1))) 112 8 (wordOf v) (by omega)
        rw [putE_small 112 8 v hv0 (by simp; omega) (by decide) (by decide), if_pos rfl, wordOf_bvi hv0 (by omega)] at p2
        have mk := Mask_c 88 40 (by omega)
        rw [show fieldB 88 40 128 = true from by decide, if_pos rfl, if_pos rfl] at mk
        generalize hk1 : ones (40 : Int).toNat <<< (88 : Int).toNat = care at mk
        generalize hk2 : putB 0 (88 : Int).toNat (24 : Int).toNat (wordOf (tn + 1)) = x1 at p1 p2
        generalize hk3 : putB x1 (112 : Int).toNat (8 : Int).toNat (wordOf v) = x2 at p2
        have km := Make_c x2 care
        have r1 := rowPP_at c.tp i
        have r2 := rowP_at (c.tp.getD i []) j
        have l1 := small_at hc.tp i
        generalize edgesT c.tp = l at ed ct
        generalize c.tp.getD i [] = ps at r1 r2 b2 e2 l1
        generalize ps.getD j p0 = p at r2 e2
        obtain ⟨kd, pt, pe, at', co⟩ := p
        simp only [portD] at r2
        simp only [] at e2
        subst e2
        subst e1
        simp only [hd] at p1 p2 mk km
        simp only [hi_zero, lo_zero] at p1
        refine q11 Try.func50 rfl (by decide +kernel) (by rw [Try.ntmps50]; simp) ?_; rw [Try.ntmps50]; simp only [frOf]
        (repeat (first | refine j0 ?_ | refine q7 rfl ?_ | refine z7 rfl ?_ | refine x6 ?_ | (refine z5 fun K hK => ?_) | (refine j5 (by kernel_rfl) (by kernel_rfl) fun K hK => ?_) | ((first | refine q6 ?_ | refine z6 ?_ | ((first | refine z3 (hK _ ?_) | refine j4 (hK _ _ (z4 (by kernel_rfl)) ?_)); clear hK K)); (first | show AWP _ _ _ _ _ | ((try simp only [j6]); first | show loopQ _ _ _ _ _ _ | show cutQ _ _ _ _ | show AWP _ _ _ _ _))) | ((first | refine z9 rfl rfl rfl ?_ | refine x9 rfl rfl rfl ?_); simp (maxSteps := 2000000) (disch := omega) only [go_sem, seval, policyD, topoD, configD, spotD, hd, cb, r1, r2]; (first | refine ⟨_, s1, ?_⟩ | refine ⟨_, ed, ?_⟩ | refine ⟨_, ct, ?_⟩ | refine ⟨_, mk, ?_⟩ | refine ⟨_, p1, ?_⟩ | refine ⟨_, p2, ?_⟩ | refine ⟨_, km, ?_⟩)) | ((first | refine x7 [] rfl ?_ | refine j7 [] rfl ?_); simp (maxSteps := 2000000) (disch := omega) only [go_sem, seval, policyD, topoD, configD, spotD, hd, cb, r1, r2]; (repeat (first | refine ⟨by omega, ?_⟩ | refine ⟨True.intro, ?_⟩)))))
        refine j8 ⟨_, ?_, rfl⟩; rw [Try.results50]; simp (disch := omega) only [ResVars, ResVar, ptrLoc, go_sem, seval, policyD, topoD, configD, spotD, hd, cb, r1, r2]
        subst hk3 hk2 hk1
        rfl
  · rw [if_pos h1] at hst
    rw [fail (by rw [hst]; exact h1), hst, cb_none]
    have q : (soundC c != 0) = true := ine_tt h1
    generalize soundC c = e at s1 q
    refine q11 Try.func50 rfl (by decide +kernel) (by rw [Try.ntmps50]; simp) ?_; rw [Try.ntmps50]; simp only [frOf]
    (repeat (first | refine j0 ?_ | refine q7 rfl ?_ | refine z7 rfl ?_ | refine x6 ?_ | (refine z5 fun K hK => ?_) | (refine j5 (by kernel_rfl) (by kernel_rfl) fun K hK => ?_) | ((first | refine q6 ?_ | refine z6 ?_ | ((first | refine z3 (hK _ ?_) | refine j4 (hK _ _ (z4 (by kernel_rfl)) ?_)); clear hK K)); (first | show AWP _ _ _ _ _ | ((try simp only [j6]); first | show loopQ _ _ _ _ _ _ | show cutQ _ _ _ _ | show AWP _ _ _ _ _))) | ((first | refine z9 rfl rfl rfl ?_ | refine x9 rfl rfl rfl ?_); simp (maxSteps := 2000000) (disch := omega) only [go_sem, seval, policyD, topoD, configD, spotD, hd, cb, q]; (first | refine ⟨_, s1, ?_⟩)) | ((first | refine x7 [] rfl ?_ | refine j7 [] rfl ?_); simp (maxSteps := 2000000) (disch := omega) only [go_sem, seval, policyD, topoD, configD, spotD, hd, cb, q]; (repeat (first | refine ⟨by omega, ?_⟩ | refine ⟨True.intro, ?_⟩)))))
    refine j8 ⟨_, ?_, rfl⟩; rw [Try.results50]; simp (disch := omega) only [ResVars, ResVar, ptrLoc, go_sem, seval, policyD, topoD, configD, spotD, hd, cb, q]
end Go.Proofs.Ytbamjcnhmmgnlaa
set_option linter.unusedSimpArgs false
set_option linter.unusedVariables false
namespace Go.Proofs.Ytbamjcnhmmgnlaa
open Go Go.Proofs.Ytbamjcnhmmgnlaa.AL
def fold1 (f : List Cube → Rule → List Cube) (l : List Rule) (L : List Cube) : List Cube := l.foldl f L
def fold2 (f : List Cube → Rule → List Cube) (t : List (List Rule)) (L : List Cube) : List Cube := t.foldl (fun L l => fold1 f l L) L
def fold3 (f : List Cube → Rule → List Cube) (b : List (List (List Rule))) (L : List Cube) : List Cube := b.foldl (fun L t => fold2 f t L) L
def cnt2 (t : List (List Rule)) : Nat := (t.map List.length).sum
def cnt3 (b : List (List (List Rule))) : Nat := (b.map cnt2).sum
theorem fold1_drop (f : List Cube → Rule → List Cube) (l : List Rule) (i : Nat) (h : i < l.length) (L : List Cube) : fold1 f (l.drop i) L = fold1 f (l.drop (i + 1)) (f L (l.getD i r0)) := by
  rw [drop_getD l i r0 h]; rfl
theorem fold2_drop (f : List Cube → Rule → List Cube) (t : List (List Rule)) (i : Nat) (h : i < t.length) (L : List Cube) : fold2 f (t.drop i) L = fold2 f (t.drop (i + 1)) (fold1 f (t.getD i []) L) := by
  rw [drop_getD t i [] h]; rfl
theorem fold3_drop (f : List Cube → Rule → List Cube) (b : List (List (List Rule))) (i : Nat) (h : i < b.length) (L : List Cube) : fold3 f (b.drop i) L = fold3 f (b.drop (i + 1)) (fold2 f (b.getD i []) L) := by
  rw [drop_getD b i [] h]; rfl
theorem cnt2_drop (t : List (List Rule)) (i : Nat) (h : i < t.length) : cnt2 (t.drop i) = (t.getD i []).length + cnt2 (t.drop (i + 1)) := by
  rw [drop_getD t i [] h]; simp [cnt2]
theorem cnt3_drop (b : List (List (List Rule))) (i : Nat) (h : i < b.length) : cnt3 (b.drop i) = cnt2 (b.getD i []) + cnt3 (b.drop (i + 1)) := by
  rw [drop_getD b i [] h]; simp [cnt3]
def ruA (b : List (List (List Rule))) (g : FuncId) (f : List Cube → Rule → List Cube) (R : List Cube) (s : {s : Nat × List Cube // s.1 ≤ b.length ∧ fold3 f (b.drop s.1) s.2 = R ∧ s.2.length + cnt3 (b.drop s.1) ≤ 1000000}) : ASt :=
  ⟨[(13, .p (.d (.v (.int .i64 (s.val.1 : Int))))), (12, .p (.d (.v (.int .i64 (b.length : Int))))), (11, .p (.d (.sl 1 b.length (rowTT b)))), (1, .cl (.func g) [.a1 1000 0] [])], lstL s.val.2⟩
def ruB (b : List (List (List Rule))) (i : Nat) (t : List (List Rule)) (g : FuncId) (f : List Cube → Rule → List Cube) (R : List Cube) (s : {s : Nat × List Cube // s.1 ≤ t.length ∧ fold2 f (t.drop s.1) s.2 = R ∧ s.2.length + cnt2 (t.drop s.1) + cnt3 (b.drop (i + 1)) ≤ 1000000}) : ASt :=
  ⟨[(19, .p (.d (.v (.int .i64 (s.val.1 : Int))))), (18, .p (.d (.v (.int .i64 (t.length : Int))))), (17, .p (.d (.sl 1 t.length (rowRR t)))), (13, .p (.d (.v (.int .i64 (i : Int))))), (12, .p (.d (.v (.int .i64 (b.length : Int))))), (11, .p (.d (.sl 1 b.length (rowTT b)))), (1, .cl (.func g) [.a1 1000 0] [])], lstL s.val.2⟩
def ruC (b : List (List (List Rule))) (i j : Nat) (t : List (List Rule)) (l : List Rule) (g : FuncId) (f : List Cube → Rule → List Cube) (R : List Cube) (s : {s : Nat × List Cube // s.1 ≤ l.length ∧ fold1 f (l.drop s.1) s.2 = R ∧ s.2.length + (l.length - s.1) + cnt2 (t.drop (j + 1)) + cnt3 (b.drop (i + 1)) ≤ 1000000}) : ASt :=
  ⟨[(25, .p (.d (.v (.int .i64 (s.val.1 : Int))))), (24, .p (.d (.v (.int .i64 (l.length : Int))))), (23, .p (.d (.sl 12 l.length (rowR l)))), (19, .p (.d (.v (.int .i64 (j : Int))))), (18, .p (.d (.v (.int .i64 (t.length : Int))))), (17, .p (.d (.sl 1 t.length (rowRR t)))), (13, .p (.d (.v (.int .i64 (i : Int))))), (12, .p (.d (.v (.int .i64 (b.length : Int))))), (11, .p (.d (.sl 1 b.length (rowTT b)))), (1, .cl (.func g) [.a1 1000 0] [])], lstL s.val.2⟩
set_option maxRecDepth 100000 in
set_option maxHeartbeats 4000000 in
theorem rulesP_c (c : Config) (hc : c.small) (g : FuncId) (f : List Cube → Rule → List Cube) (L : List Cube) (R : List Cube)
    (hs : ∀ L r, L.length ≤ 1000000 → MCalls Try.prog g [.ag [.loc 1000 0], .p (.agg (ruleD r))] (lstL L) (fun rs M => rs = [] ∧ M = lstL (f L r))) (hf : ∀ L r, (f L r).length ≤ L.length + 1)
    (hl : L.length + cnt3 c.tb ≤ 1000000) (hR : fold3 f c.tb L = R) :
    MCalls Try.prog 52 [.p (.agg (configD c)), .cl (.func g) [.a1 1000 0] []] (lstL L) (fun rs M => rs = [] ∧ M = lstL R) := by
  have hb := hc.tb
  unfold configD lstL lstA
  refine mcalls_of_awp Try.func52 rfl (by decide +kernel) (by rw [Try.ntmps52]; simp) (fun l X h => by simp only [AL.look] at h; (repeat' split at h); all_goals first | omega | cases h) ?_; rw [Try.ntmps52]; simp only [frA]
  (repeat (first | refine j0 ?_ | refine q7 rfl ?_ | refine z7 rfl ?_ | refine x6 ?_ | (refine z5 fun K hK => ?_) | (refine j5 (by kernel_rfl) (by kernel_rfl) fun K hK => ?_) | ((first | refine q6 ?_ | refine z6 ?_ | ((first | refine z3 (hK _ ?_) | refine j4 (hK _ _ (z4 (by kernel_rfl)) ?_)); clear hK K)); (first | show AWP _ _ _ _ _ | ((try simp only [j6]); first | show loopQ _ _ _ _ _ _ | show cutQ _ _ _ _ | show AWP _ _ _ _ _))) | ((first | refine x7 [] rfl ?_ | refine j7 [] rfl ?_); simp (maxSteps := 2000000) (disch := omega) only [go_sem, seval, hd, cb, ruleD, lstL, lstA]; (repeat (first | refine ⟨by omega, ?_⟩ | refine ⟨True.intro, ?_⟩)))))
  refine awp_loop (ruA c.tb g f R) (fun s => c.tb.length - s.val.1) ⟨(0, L), by omega, by rw [List.drop_zero]; exact hR, by rw [List.drop_zero]; exact hl⟩ ?_ (fun s => ?_)
  · unfold ruA
    refine Weak.list ?_ ?_; (all_goals simp (disch := omega) only [AllF, AllL, q10, z10, j9, exists_eq_left', Option.some.injEq, go_sem, seval, hd, cb, ruleD, lstL, lstA]); (all_goals (repeat' (with_reducible apply And.intro))); (all_goals try (first | exact q8 rfl | (refine x10 ?_; omega) | (refine q8 ?_; simp; done)))
  obtain ⟨⟨i, L1⟩, hi, h1, h2⟩ := s
  simp only [] at hi h1 h2
  unfold ruA
  simp only []
  by_cases hn : i < c.tb.length
  · have r1 := rowTT_at c.tb i
    have hsm := hc.at i
    rw [fold3_drop f c.tb i hn] at h1
    rw [cnt3_drop c.tb i hn] at h2
    generalize c.tb.getD i [] = t at r1 h1 h2 hsm
    have b1 := hsm.1
    obtain ⟨R2, hR2⟩ : ∃ x, fold2 f t L1 = x := ⟨_, rfl⟩
    rw [hR2] at h1
    (repeat (first | refine j0 ?_ | refine q7 rfl ?_ | refine z7 rfl ?_ | refine x6 ?_ | (refine z5 fun K hK => ?_) | (refine j5 (by kernel_rfl) (by kernel_rfl) fun K hK => ?_) | ((first | refine q6 ?_ | refine z6 ?_ | ((first | refine z3 (hK _ ?_) | refine j4 (hK _ _ (z4 (by kernel_rfl)) ?_)); clear hK K)); (first | show AWP _ _ _ _ _ | ((try simp only [j6]); first | show loopQ _ _ _ _ _ _ | show cutQ _ _ _ _ | show AWP _ _ _ _ _))) | ((first | refine x7 [] rfl ?_ | refine j7 [] rfl ?_); simp (maxSteps := 2000000) (disch := omega) only [go_sem, seval, hd, cb, ruleD, lstL, lstA, r1]; (repeat (first | refine ⟨by omega, ?_⟩ | refine ⟨True.intro, ?_⟩)))))
    refine awp_loop (ruB c.tb i t g f R2) (fun s => t.length - s.val.1) ⟨(0, L1), by omega, by rw [List.drop_zero]; exact hR2, by rw [List.drop_zero]; simp only []; omega⟩ ?_ (fun s => ?_)
    · unfold ruB
      refine Weak.list ?_ ?_; (all_goals simp (disch := omega) only [AllF, AllL, q10, z10, j9, exists_eq_left', Option.some.injEq, go_sem, seval, hd, cb, ruleD, lstL, lstA, r1]); (all_goals (repeat' (with_reducible apply And.intro))); (all_goals try (first | exact q8 rfl | (refine x10 ?_; omega) | (refine q8 ?_; simp; done)))
    obtain ⟨⟨j, L2⟩, hj, h3, h4⟩ := s
    simp only [] at hj h3 h4
    unfold ruB
    simp only []
    by_cases hm : j < t.length
    · have r2 := rowRR_at t j
      have b2 := smallR_at hsm j
      rw [fold2_drop f t j hm] at h3
      rw [cnt2_drop t j hm] at h4
      generalize t.getD j [] = l at r2 h3 h4 b2
      obtain ⟨R3, hR3⟩ : ∃ x, fold1 f l L2 = x := ⟨_, rfl⟩
      rw [hR3] at h3
      (repeat (first | refine j0 ?_ | refine q7 rfl ?_ | refine z7 rfl ?_ | refine x6 ?_ | (refine z5 fun K hK => ?_) | (refine j5 (by kernel_rfl) (by kernel_rfl) fun K hK => ?_) | ((first | refine q6 ?_ | refine z6 ?_ | ((first | refine z3 (hK _ ?_) | refine j4 (hK _ _ (z4 (by kernel_rfl)) ?_)); clear hK K)); (first | show AWP _ _ _ _ _ | ((try simp only [j6]); first | show loopQ _ _ _ _ _ _ | show cutQ _ _ _ _ | show AWP _ _ _ _ _))) | ((first | refine x7 [] rfl ?_ | refine j7 [] rfl ?_); simp (maxSteps := 2000000) (disch := omega) only [go_sem, seval, hd, cb, ruleD, lstL, lstA, r1, r2]; (repeat (first | refine ⟨by omega, ?_⟩ | refine ⟨True.intro, ?_⟩)))))
      refine awp_loop (ruC c.tb i j t l g f R3) (fun s => l.length - s.val.1) ⟨(0, L2), by omega, by rw [List.drop_zero]; exact hR3, by simp only []; omega⟩ ?_ (fun s => ?_)
      · unfold ruC
        refine Weak.list ?_ ?_; (all_goals simp (disch := omega) only [AllF, AllL, q10, z10, j9, exists_eq_left', Option.some.injEq, go_sem, seval, hd, cb, ruleD, lstL, lstA, r1, r2]); (all_goals (repeat' (with_reducible apply And.intro))); (all_goals try (first | exact q8 rfl | (refine x10 ?_; omega) | (refine q8 ?_; simp; done)))
      obtain ⟨⟨k, L3⟩, hk, h5, h6⟩ := s
      simp only [] at hk h5 h6
      unfold ruC
      simp only []
      by_cases ho : k < l.length
      · have r3 := rowR_at l k
        rw [fold1_drop f l k ho] at h5
        generalize l.getD k r0 = r at r3 h5
        have st := hs L3 r (by omega)
        have sl := hf L3 r
        generalize f L3 r = L4 at st sl h5
        unfold lstL lstA at st
        (repeat (first | refine j0 ?_ | refine q7 rfl ?_ | refine z7 rfl ?_ | refine x6 ?_ | (refine z5 fun K hK => ?_) | (refine j5 (by kernel_rfl) (by kernel_rfl) fun K hK => ?_) | ((first | refine q6 ?_ | refine z6 ?_ | ((first | refine z3 (hK _ ?_) | refine j4 (hK _ _ (z4 (by kernel_rfl)) ?_)); clear hK K)); (first | show AWP _ _ _ _ _ | ((try simp only [j6]); first | show loopQ _ _ _ _ _ _ | show cutQ _ _ _ _ | show AWP _ _ _ _ _))) | ((first | refine x7 [] rfl ?_ | refine j7 [] rfl ?_); simp (maxSteps := 2000000) (disch := omega) only [go_sem, seval, hd, cb, ruleD, lstL, lstA, r1, r2, r3]; (repeat (first | refine ⟨by omega, ?_⟩ | refine ⟨True.intro, ?_⟩)))))
        (refine walkS_cons _ (step_mcall [(1000, 1000), (1001, 1001), (1002, 1002)] rfl rfl rfl rfl rfl rfl (st) rfl (namesOK_of (by repeat (first | exact trivial | refine ⟨rfl, ?_⟩)) (by kernel_rfl))) ?_); simp (maxSteps := 2000000) (disch := omega) only [go_sem, seval, hd, cb, ruleD, lstL, lstA, r1, r2, r3]
        (repeat (first | refine j0 ?_ | refine q7 rfl ?_ | refine z7 rfl ?_ | refine x6 ?_ | (refine z5 fun K hK => ?_) | (refine j5 (by kernel_rfl) (by kernel_rfl) fun K hK => ?_) | ((first | refine q6 ?_ | refine z6 ?_ | ((first | refine z3 (hK _ ?_) | refine j4 (hK _ _ (z4 (by kernel_rfl)) ?_)); clear hK K)); (first | show AWP _ _ _ _ _ | ((try simp only [j6]); first | show loopQ _ _ _ _ _ _ | show cutQ _ _ _ _ | show AWP _ _ _ _ _))) | ((first | refine x7 [] rfl ?_ | refine j7 [] rfl ?_); simp (maxSteps := 2000000) (disch := omega) only [go_sem, seval, hd, cb, ruleD, lstL, lstA, r1, r2, r3]; (repeat (first | refine ⟨by omega, ?_⟩ | refine ⟨True.intro, ?_⟩)))))
        refine ⟨⟨(k + 1, L4), by simp only []; omega, h5, by simp only []; omega⟩, by simp only []; omega, ?_⟩
        refine Weak.list ?_ ?_; (all_goals simp (disch := omega) only [AllF, AllL, q10, z10, j9, exists_eq_left', Option.some.injEq, go_sem, seval, hd, cb, ruleD, lstL, lstA, r1, r2, r3]); (all_goals (repeat' (with_reducible apply And.intro))); (all_goals try (first | exact q8 rfl | (refine x10 ?_; omega) | (refine q8 ?_; simp; done)))
      · have : k = l.length := by omega
        subst this
        rw [List.drop_length] at h5
        cases h5
        (repeat (first | refine j0 ?_ | refine q7 rfl ?_ | refine z7 rfl ?_ | refine x6 ?_ | (refine z5 fun K hK => ?_) | (refine j5 (by kernel_rfl) (by kernel_rfl) fun K hK => ?_) | ((first | refine q6 ?_ | refine z6 ?_ | ((first | refine z3 (hK _ ?_) | refine j4 (hK _ _ (z4 (by kernel_rfl)) ?_)); clear hK K)); (first | show AWP _ _ _ _ _ | ((try simp only [j6]); first | show loopQ _ _ _ _ _ _ | show cutQ _ _ _ _ | show AWP _ _ _ _ _))) | ((first | refine x7 [] rfl ?_ | refine j7 [] rfl ?_); simp (maxSteps := 2000000) (disch := omega) only [go_sem, seval, hd, cb, ruleD, lstL, lstA, r1, r2]; (repeat (first | refine ⟨by omega, ?_⟩ | refine ⟨True.intro, ?_⟩)))))
        refine ⟨⟨(j + 1, L3), by simp only []; omega, h3, by simp only []; omega⟩, by simp only []; omega, ?_⟩
        refine Weak.list ?_ ?_; (all_goals simp (disch := omega) only [AllF, AllL, q10, z10, j9, exists_eq_left', Option.some.injEq, go_sem, seval, hd, cb, ruleD, lstL, lstA, r1, r2]); (all_goals (repeat' (with_reducible apply And.intro))); (all_goals try (first | exact q8 rfl | (refine x10 ?_; omega) | (refine q8 ?_; simp; done)))
    · have : j = t.length := by omega
      subst this
      rw [List.drop_length] at h3
      cases h3
      (repeat (first | refine j0 ?_ | refine q7 rfl ?_ | refine z7 rfl ?_ | refine x6 ?_ | (refine z5 fun K hK => ?_) | (refine j5 (by kernel_rfl) (by kernel_rfl) fun K hK => ?_) | ((first | refine q6 ?_ | refine z6 ?_ | ((first | refine z3 (hK _ ?_) | refine j4 (hK _ _ (z4 (by kernel_rfl)) ?_)); clear hK K)); (first | show AWP _ _ _ _ _ | ((try simp only [j6]); first | show loopQ _ _ _ _ _ _ | show cutQ _ _ _ _ | show AWP _ _ _ _ _))) | ((first | refine x7 [] rfl ?_ | refine j7 [] rfl ?_); simp (maxSteps := 2000000) (disch := omega) only [go_sem, seval, hd, cb, ruleD, lstL, lstA, r1]; (repeat (first | refine ⟨by omega, ?_⟩ | refine ⟨True.intro, ?_⟩)))))
      refine ⟨⟨(i + 1, L2), by simp only []; omega, h1, ?_⟩, by simp only []; omega, ?_⟩
      · simp only [List.drop_length, cnt2, List.map_nil, List.sum_nil] at h4 ⊢
        omega
      refine Weak.list ?_ ?_; (all_goals simp (disch := omega) only [AllF, AllL, q10, z10, j9, exists_eq_left', Option.some.injEq, go_sem, seval, hd, cb, ruleD, lstL, lstA, r1]); (all_goals (repeat' (with_reducible apply And.intro))); (all_goals try (first | exact q8 rfl | (refine x10 ?_; omega) | (refine q8 ?_; simp; done)))
  · have : i = c.tb.length := by omega
    subst this
    rw [List.drop_length] at h1
    cases h1
    (repeat (first | refine j0 ?_ | refine q7 rfl ?_ | refine z7 rfl ?_ | refine x6 ?_ | (refine z5 fun K hK => ?_) | (refine j5 (by kernel_rfl) (by kernel_rfl) fun K hK => ?_) | ((first | refine q6 ?_ | refine z6 ?_ | ((first | refine z3 (hK _ ?_) | refine j4 (hK _ _ (z4 (by kernel_rfl)) ?_)); clear hK K)); (first | show AWP _ _ _ _ _ | ((try simp only [j6]); first | show loopQ _ _ _ _ _ _ | show cutQ _ _ _ _ | show AWP _ _ _ _ _))) | ((first | refine x7 [] rfl ?_ | refine j7 [] rfl ?_); simp (maxSteps := 2000000) (disch := omega) only [go_sem, seval, hd, cb, ruleD, lstL, lstA]; (repeat (first | refine ⟨by omega, ?_⟩ | refine ⟨True.intro, ?_⟩)))))
    (first | refine q6 ?_ | refine z6 ?_ | refine z3 (hK _ ?_) | refine j4 (hK _ _ (z4 (by kernel_rfl)) ?_)); (show retM _ _ _ .normal _)
    refine retM_of' [] (lstL L1) trivial ?_ ⟨rfl, rfl⟩
    simp [AL.look, lstL, lstA]
end Go.Proofs.Ytbamjcnhmmgnlaa
set_option linter.unusedSimpArgs false
set_option linter.unusedVariables false
namespace Go.Proofs.Ytbamjcnhmmgnlaa.AL
open Go
theorem step_loadC {P : Program} {nt : Nat} {ops : Array Oper} {o : Oper} {A : ASt} {t : TypeId} {x : Operand} {ti : TI} {l : Nat} {e : TypeId} {cs : List AV} (ys : List CV) (ho : o.op = .load t x) (hti : tiOf P t = some ti) (hag : ti.k.agg = true)
    (hd : dstOK nt o = true) (hw : wantedA ops o A = some true) (hx : A.eval x = .loc l 0) (hl : look A.locs l = some (.cells e cs)) (hys : cs.mapM cvAV = some ys) (hs : cs.length = ti.size) : StepS P nt ops o A (A.apply o.dst { val := .ag ys }) := by
  refine OpDo.step (lo := some l) (E := { val := .ag ys }) ⟨dstOK_spec hd, .inr ⟨hw, OpSem.toT ?_⟩, fun hf => (by cases hf), fun l L hu => (by cases hu)⟩
  refine z11 fun B w h r hr hL => ?_
  simp only [ho, Op.operands] at hr
  have h0 : RelA w h (r x) (A.eval x) := hr.2 0 (r x) _ rfl rfl
  rw [hx] at h0
  have h0' : r x = .pointer (some ⟨h.ρ l, 0, none⟩) := h0
  obtain ⟨arr, hB, hh, hsz, hg, hrr⟩ := hL l (.cells e cs) (by simp [ASt.locAt, hl])
  have hr2 : RelAs w h arr.toList cs := ⟨by simpa using hsz, fun j v c hv hc => (hrr j v c (by simpa using hv) hc).1⟩
  refine ⟨.agg arr.toList.toArray, run_load_op ho r w h0' (run_load_agg hti hag (by simp; omega) fun j v hv => ?_), arr.toList, rfl, cvs_spec hys hr2, fun u hu => ?_⟩
  · rw [Nat.zero_add, heap_cell hh]; simpa using hv
  · obtain ⟨j, hj⟩ := List.getElem?_of_mem hu
    have hlt : j < cs.length := by
      have := (List.getElem?_eq_some_iff.1 hj).1
      simp at this; omega
    exact (hrr j u cs[j] (by simpa using hj) (List.getElem?_eq_getElem hlt)).2
end Go.Proofs.Ytbamjcnhmmgnlaa.AL
set_option linter.unusedSimpArgs false
set_option linter.unusedVariables false
namespace Go.Proofs.Ytbamjcnhmmgnlaa
open Go Go.Proofs.Ytbamjcnhmmgnlaa.AL
set_option maxRecDepth 100000 in
theorem fresh_c : MCalls Try.prog 48 [] [] (fun rs M => rs = [.loc 3 0] ∧ M = [(3, .cells 127 [.p (.d (.v (.slice none 0 0))), .mp 1]), (1, .map [.u64, .u64, .u64, .u64] [])]) := by
  refine mcalls_of_awp Try.func48 rfl (by decide +kernel) (by rw [Try.ntmps48]; simp) (fun l X h => by simp only [AL.look] at h; (repeat' split at h); all_goals first | omega | cases h) ?_; rw [Try.ntmps48]; simp only [frA]
  (repeat (first | refine j0 ?_ | refine q7 rfl ?_ | refine z7 rfl ?_ | refine x6 ?_ | (refine z5 fun K hK => ?_) | (refine j5 (by kernel_rfl) (by kernel_rfl) fun K hK => ?_) | ((first | refine q6 ?_ | refine z6 ?_ | ((first | refine z3 (hK _ ?_) | refine j4 (hK _ _ (z4 (by kernel_rfl)) ?_)); clear hK K)); (first | show AWP _ _ _ _ _ | ((try simp only [j6]); first | show loopQ _ _ _ _ _ _ | show cutQ _ _ _ _ | show AWP _ _ _ _ _))) | ((first | refine x7 [3] rfl ?_ | refine j7 [3] rfl ?_); simp (maxSteps := 2000000) (disch := omega) only [go_sem, seval, hd, cb, ruleD, configD, spotD, q9]; (repeat (first | refine ⟨by omega, ?_⟩ | refine ⟨keyTy_cube, ?_⟩)))))
  refine j8 (retM_of [.loc 3 0] _ ⟨rfl, trivial⟩ ?_ ⟨rfl, rfl⟩)
  simp [AL.look]
def matchF (L : List Cube) (r : Rule) : List Cube := addC L r.mt
def setF (L : List Cube) (r : Rule) : List Cube := if r.st = ⟨0, 0⟩ then L else addC L r.st
set_option maxRecDepth 100000 in
theorem matchP_c (L : List Cube) (r : Rule) (hl : L.length ≤ 1000000) : MCalls Try.prog 59 [.ag [.loc 1000 0], .p (.agg (ruleD r))] (lstL L) (fun rs M => rs = [] ∧ M = lstL (matchF L r)) := by
  have ad := add_c L r.mt (by omega)
  unfold matchF
  generalize addC L r.mt = L2 at ad
  unfold lstL lstA at *
  refine mcalls_of_awp Try.func59 rfl (by decide +kernel) (by rw [Try.ntmps59]; simp) (fun l X h => by simp only [AL.look] at h; (repeat' split at h); all_goals first | omega | cases h) ?_; rw [Try.ntmps59]; simp only [frA]
  (repeat (first | refine j0 ?_ | refine q7 rfl ?_ | refine z7 rfl ?_ | refine x6 ?_ | (refine z5 fun K hK => ?_) | (refine j5 (by kernel_rfl) (by kernel_rfl) fun K hK => ?_) | ((first | refine q6 ?_ | refine z6 ?_ | ((first | refine z3 (hK _ ?_) | refine j4 (hK _ _ (z4 (by kernel_rfl)) ?_)); clear hK K)); (first | show AWP _ _ _ _ _ | ((try simp only [j6]); first | show loopQ _ _ _ _ _ _ | show cutQ _ _ _ _ | show AWP _ _ _ _ _))) | ((first | refine x7 [2] rfl ?_ | refine j7 [2] rfl ?_); simp (maxSteps := 2000000) (disch := omega) only [go_sem, seval, hd, cb, ruleD, configD, spotD, q9, lstL, lstA]; (repeat (first | refine ⟨by omega, ?_⟩ | refine ⟨keyTy_cube, ?_⟩)))))
  (refine walkS_cons _ (step_mcall [(1000, 1000), (1001, 1001), (1002, 1002)] rfl rfl rfl rfl rfl rfl (ad) rfl (namesOK_of (by repeat (first | exact trivial | refine ⟨rfl, ?_⟩)) (by kernel_rfl))) ?_); simp (maxSteps := 2000000) (disch := omega) only [go_sem, seval, hd, cb, ruleD, configD, spotD, q9, lstL, lstA]
  (repeat (first | refine j0 ?_ | refine q7 rfl ?_ | refine z7 rfl ?_ | refine x6 ?_ | (refine z5 fun K hK => ?_) | (refine j5 (by kernel_rfl) (by kernel_rfl) fun K hK => ?_) | ((first | refine q6 ?_ | refine z6 ?_ | ((first | refine z3 (hK _ ?_) | refine j4 (hK _ _ (z4 (by kernel_rfl)) ?_)); clear hK K)); (first | show AWP _ _ _ _ _ | ((try simp only [j6]); first | show loopQ _ _ _ _ _ _ | show cutQ _ _ _ _ | show AWP _ _ _ _ _))) | ((first | refine x7 [2] rfl ?_ | refine j7 [2] rfl ?_); simp (maxSteps := 2000000) (disch := omega) only [go_sem, seval, hd, cb, ruleD, configD, spotD, q9, lstL, lstA]; (repeat (first | refine ⟨by omega, ?_⟩ | refine ⟨keyTy_cube, ?_⟩)))))
  (first | refine q6 ?_ | refine z6 ?_ | refine z3 (hK _ ?_) | refine j4 (hK _ _ (z4 (by kernel_rfl)) ?_)); (show retM _ _ _ .normal _)
  refine retM_of' [] (lstL L2) trivial ?_ ⟨rfl, rfl⟩
  simp [AL.look, lstL, lstA]
set_option maxRecDepth 100000 in
theorem setP_c (L : List Cube) (r : Rule) (hl : L.length ≤ 1000000) : MCalls Try.prog 53 [.ag [.loc 1000 0], .p (.agg (ruleD r))] (lstL L) (fun rs M => rs = [] ∧ M = lstL (setF L r)) := by
  have ad := add_c L r.st (by omega)
  have q := eqI_cb r.st ⟨0, 0⟩
  simp only [hi_zero, lo_zero] at q
  unfold setF
  by_cases h : r.st = ⟨0, 0⟩
  · rw [if_pos h]
    rw [show (r.st == (⟨0, 0⟩ : Cube)) = true by rw [h]; exact beq_self_eq_true _] at q
    unfold lstL lstA at *
    refine mcalls_of_awp Try.func53 rfl (by decide +kernel) (by rw [Try.ntmps53]; simp) (fun l X h => by simp only [AL.look] at h; (repeat' split at h); all_goals first | omega | cases h) ?_; rw [Try.ntmps53]; simp only [frA]
    (repeat (first | refine j0 ?_ | refine q7 rfl ?_ | refine z7 rfl ?_ | refine x6 ?_ | (refine z5 fun K hK => ?_) | (refine j5 (by kernel_rfl) (by kernel_rfl) fun K hK => ?_) | ((first | refine q6 ?_ | refine z6 ?_ | ((first | refine z3 (hK _ ?_) | refine j4 (hK _ _ (z4 (by kernel_rfl)) ?_)); clear hK K)); (first | show AWP _ _ _ _ _ | ((try simp only [j6]); first | show loopQ _ _ _ _ _ _ | show cutQ _ _ _ _ | show AWP _ _ _ _ _))) | ((first | refine x7 [2] rfl ?_ | refine j7 [2] rfl ?_); simp (maxSteps := 2000000) (disch := omega) only [go_sem, seval, hd, cb, ruleD, configD, spotD, q9, lstL, lstA, q]; (repeat (first | refine ⟨by omega, ?_⟩ | refine ⟨keyTy_cube, ?_⟩)))))
    (first | refine q6 ?_ | refine z6 ?_ | refine z3 (hK _ ?_) | refine j4 (hK _ _ (z4 (by kernel_rfl)) ?_)); (show retM _ _ _ .normal _)
    refine retM_of' [] (lstL L) trivial ?_ ⟨rfl, rfl⟩
    simp [AL.look, lstL, lstA]
  · rw [if_neg h]
    rw [show (r.st == (⟨0, 0⟩ : Cube)) = false by rw [beq_eq_false_iff_ne]; exact h] at q
    generalize addC L r.st = L2 at ad
    unfold lstL lstA at *
    refine mcalls_of_awp Try.func53 rfl (by decide +kernel) (by rw [Try.ntmps53]; simp) (fun l X h => by simp only [AL.look] at h; (repeat' split at h); all_goals first | omega | cases h) ?_; rw [Try.ntmps53]; simp only [frA]
    (repeat (first | refine j0 ?_ | refine q7 rfl ?_ | refine z7 rfl ?_ | refine x6 ?_ | (refine z5 fun K hK => ?_) | (refine j5 (by kernel_rfl) (by kernel_rfl) fun K hK => ?_) | ((first | refine q6 ?_ | refine z6 ?_ | ((first | refine z3 (hK _ ?_) | refine j4 (hK _ _ (z4 (by kernel_rfl)) ?_)); clear hK K)); (first | show AWP _ _ _ _ _ | ((try simp only [j6]); first | show loopQ _ _ _ _ _ _ | show cutQ _ _ _ _ | show AWP _ _ _ _ _))) | ((first | refine x7 [2] rfl ?_ | refine j7 [2] rfl ?_); simp (maxSteps := 2000000) (disch := omega) only [go_sem, seval, hd, cb, ruleD, configD, spotD, q9, lstL, lstA, q]; (repeat (first | refine ⟨by omega, ?_⟩ | refine ⟨keyTy_cube, ?_⟩)))))
    (refine walkS_cons _ (step_mcall [(1000, 1000), (1001, 1001), (1002, 1002)] rfl rfl rfl rfl rfl rfl (ad) rfl (namesOK_of (by repeat (first | exact trivial | refine ⟨rfl, ?_⟩)) (by kernel_rfl))) ?_); simp (maxSteps := 2000000) (disch := omega) only [go_sem, seval, hd, cb, ruleD, configD, spotD, q9, lstL, lstA, q]
    (repeat (first | refine j0 ?_ | refine q7 rfl ?_ | refine z7 rfl ?_ | refine x6 ?_ | (refine z5 fun K hK => ?_) | (refine j5 (by kernel_rfl) (by kernel_rfl) fun K hK => ?_) | ((first | refine q6 ?_ | refine z6 ?_ | ((first | refine z3 (hK _ ?_) | refine j4 (hK _ _ (z4 (by kernel_rfl)) ?_)); clear hK K)); (first | show AWP _ _ _ _ _ | ((try simp only [j6]); first | show loopQ _ _ _ _ _ _ | show cutQ _ _ _ _ | show AWP _ _ _ _ _))) | ((first | refine x7 [2] rfl ?_ | refine j7 [2] rfl ?_); simp (maxSteps := 2000000) (disch := omega) only [go_sem, seval, hd, cb, ruleD, configD, spotD, q9, lstL, lstA, q]; (repeat (first | refine ⟨by omega, ?_⟩ | refine ⟨keyTy_cube, ?_⟩)))))
    (first | refine q6 ?_ | refine z6 ?_ | refine z3 (hK _ ?_) | refine j4 (hK _ _ (z4 (by kernel_rfl)) ?_)); (show retM _ _ _ .normal _)
    refine retM_of' [] (lstL L2) trivial ?_ ⟨rfl, rfl⟩
    simp [AL.look, lstL, lstA]
theorem matchF_len (L : List Cube) (r : Rule) : (matchF L r).length ≤ L.length + 1 := addC_len L r.mt
theorem setF_len (L : List Cube) (r : Rule) : (setF L r).length ≤ L.length + 1 := by
  unfold setF; split
  · omega
  · exact addC_len L r.st
theorem foldl_len {α : Type} (f : List Cube → α → List Cube) (hf : ∀ L a, (f L a).length ≤ L.length + 1) : ∀ (l : List α) (L : List Cube), (l.foldl f L).length ≤ L.length + l.length
  | [], L => by simp
  | a :: l, L => by
    have := foldl_len f hf l (f L a)
    have := hf L a
    simp only [List.foldl_cons, List.length_cons]
    omega
theorem fold1_len (f : List Cube → Rule → List Cube) (hf : ∀ L r, (f L r).length ≤ L.length + 1) (l : List Rule) (L : List Cube) : (fold1 f l L).length ≤ L.length + l.length := foldl_len f hf l L
theorem fold2_len (f : List Cube → Rule → List Cube) (hf : ∀ L r, (f L r).length ≤ L.length + 1) : ∀ (t : List (List Rule)) (L : List Cube), (fold2 f t L).length ≤ L.length + cnt2 t
  | [], L => by simp [fold2]
  | l :: t, L => by
    have h1 := fold2_len f hf t (fold1 f l L)
    have h2 := fold1_len f hf l L
    have e : fold2 f (l :: t) L = fold2 f t (fold1 f l L) := rfl
    have c : cnt2 (l :: t) = l.length + cnt2 t := by simp [cnt2]
    rw [e, c]; omega
theorem fold3_len (f : List Cube → Rule → List Cube) (hf : ∀ L r, (f L r).length ≤ L.length + 1) : ∀ (b : List (List (List Rule))) (L : List Cube), (fold3 f b L).length ≤ L.length + cnt3 b
  | [], L => by simp [fold3]
  | t :: b, L => by
    have h1 := fold3_len f hf b (fold2 f t L)
    have h2 := fold2_len f hf t L
    have e : fold3 f (t :: b) L = fold3 f b (fold2 f t L) := rfl
    have c : cnt3 (t :: b) = cnt2 t + cnt3 b := by simp [cnt3]
    rw [e, c]; omega
def stampF (c : Config) (v : Int) (L : List Cube) (s : Spot) : List Cube := addC L (stampC c s v)
def setsE (c : Config) (v : Int) : List Cube := (edgesT c.tp).foldl (stampF c v) []
def setsL (c : Config) (v : Int) : List Cube := fold3 setF c.tb (setsE c v)
def predE (c : Config) (v : Int) : Int := if soundC c ≠ 0 then soundC c else if v < 0 ∨ 255 < v then 4 else 0
def setsV (c : Config) (v : Int) : List Cube := if predE c v = 0 then setsL c v else []
def setsI (c : Config) (v : Int) (l : List Spot) (R : List Cube) (s : {s : Nat × List Cube // s.1 ≤ l.length ∧ (l.drop s.1).foldl (stampF c v) s.2 = R ∧ s.2.length ≤ s.1}) : ASt :=
  ⟨[(29, .p (.d (.v (.int .i64 (s.val.1 : Int))))), (28, .p (.d (.v (.int .i64 (l.length : Int))))), (27, .p (.d (.sl 2 l.length (rowS l)))), (7, .loc 7 0), (2, .p (.d (.bx (configD c)))), (1, .p (.d (.v (.int .i64 v))))],
   [(7, .cells 117 [.loc 601 0]), (601, .cells 127 [.ow 603 s.val.2.length 4 s.val.2.length, .mp 602]), (602, .map [.u64, .u64, .u64, .u64] (seenM s.val.2)), (603, .own 27 4 s.val.2.length s.val.2.length (rowC s.val.2))]⟩
set_option maxRecDepth 100000 in
theorem Sets_bad (c : Config) (v : Int) (hc : c.small) (e : Int) (he : e ≠ 0) (h : soundC c = e ∨ (soundC c = 0 ∧ (v < 0 ∨ 255 < v) ∧ e = 4)) : ACalls Try.prog 24 [.agg (configD c), .d (.v (.int .i64 v))] (· = [.d (.sl 4 ([] : List Cube).length (rowC [])), .d (.v (.int .i64 e))]) := by
  have so := SoundC_c c hc
  rcases h with h | ⟨h, hv, rfl⟩
  · rw [h] at so
    have q := ine_tt he
    refine q11 Try.func24 rfl (by decide +kernel) (by rw [Try.ntmps24]; simp) ?_; rw [Try.ntmps24]; simp only [frOf]
    (repeat (first | refine j0 ?_ | refine q7 rfl ?_ | refine z7 rfl ?_ | refine x6 ?_ | (refine z5 fun K hK => ?_) | (refine j5 (by kernel_rfl) (by kernel_rfl) fun K hK => ?_) | ((first | refine q6 ?_ | refine z6 ?_ | ((first | refine z3 (hK _ ?_) | refine j4 (hK _ _ (z4 (by kernel_rfl)) ?_)); clear hK K)); (first | show AWP _ _ _ _ _ | ((try simp only [j6]); first | show loopQ _ _ _ _ _ _ | show cutQ _ _ _ _ | show AWP _ _ _ _ _))) | ((first | refine z9 rfl rfl rfl ?_ | refine x9 rfl rfl rfl ?_); simp (maxSteps := 2000000) (disch := omega) only [go_sem, seval, hd, cb, ruleD, configD, spotD, q9, q]; (first | refine ⟨_, so, ?_⟩)) | ((first | refine x7 [7] rfl ?_ | refine j7 [7] rfl ?_); simp (maxSteps := 2000000) (disch := omega) only [go_sem, seval, hd, cb, ruleD, configD, spotD, q9, q]; (repeat (first | refine ⟨by omega, ?_⟩ | refine ⟨keyTy_cube, ?_⟩)))))
    refine awp_slot 4 _ (.p (.d (.sl 4 ([] : List Cube).length (rowC [])))) rfl (le_nil 4 _ _ rfl) ?_
    refine j8 ⟨_, ?_, rfl⟩; rw [Try.results24]; simp (disch := omega) only [ResVars, ResVar, ptrLoc, go_sem, seval, hd, cb, ruleD, configD, spotD, q9, q]
  · rw [h] at so
    by_cases h0 : v < 0
    · have q1 : decide (v < 0) = true := decide_eq_true h0
      refine q11 Try.func24 rfl (by decide +kernel) (by rw [Try.ntmps24]; simp) ?_; rw [Try.ntmps24]; simp only [frOf]
      (repeat (first | refine j0 ?_ | refine q7 rfl ?_ | refine z7 rfl ?_ | refine x6 ?_ | (refine z5 fun K hK => ?_) | (refine j5 (by kernel_rfl) (by kernel_rfl) fun K hK => ?_) | ((first | refine q6 ?_ | refine z6 ?_ | ((first | refine z3 (hK _ ?_) | refine j4 (hK _ _ (z4 (by kernel_rfl)) ?_)); clear hK K)); (first | show AWP _ _ _ _ _ | ((try simp only [j6]); first | show loopQ _ _ _ _ _ _ | show cutQ _ _ _ _ | show AWP _ _ _ _ _))) | ((first | refine z9 rfl rfl rfl ?_ | refine x9 rfl rfl rfl ?_); simp (maxSteps := 2000000) (disch := omega) only [go_sem, seval, hd, cb, ruleD, configD, spotD, q9, q1]; (first | refine ⟨_, so, ?_⟩)) | ((first | refine x7 [7] rfl ?_ | refine j7 [7] rfl ?_); simp (maxSteps := 2000000) (disch := omega) only [go_sem, seval, hd, cb, ruleD, configD, spotD, q9, q1]; (repeat (first | refine ⟨by omega, ?_⟩ | refine ⟨keyTy_cube, ?_⟩)))))
      refine awp_slot 4 _ (.p (.d (.sl 4 ([] : List Cube).length (rowC [])))) rfl (le_nil 4 _ _ rfl) ?_
      refine j8 ⟨_, ?_, rfl⟩; rw [Try.results24]; simp (disch := omega) only [ResVars, ResVar, ptrLoc, go_sem, seval, hd, cb, ruleD, configD, spotD, q9, q1]
    · have q1 : decide (v < 0) = false := decide_eq_false h0
      have q2 : decide (255 < v) = true := decide_eq_true (by omega)
      refine q11 Try.func24 rfl (by decide +kernel) (by rw [Try.ntmps24]; simp) ?_; rw [Try.ntmps24]; simp only [frOf]
      (repeat (first | refine j0 ?_ | refine q7 rfl ?_ | refine z7 rfl ?_ | refine x6 ?_ | (refine z5 fun K hK => ?_) | (refine j5 (by kernel_rfl) (by kernel_rfl) fun K hK => ?_) | ((first | refine q6 ?_ | refine z6 ?_ | ((first | refine z3 (hK _ ?_) | refine j4 (hK _ _ (z4 (by kernel_rfl)) ?_)); clear hK K)); (first | show AWP _ _ _ _ _ | ((try simp only [j6]); first | show loopQ _ _ _ _ _ _ | show cutQ _ _ _ _ | show AWP _ _ _ _ _))) | ((first | refine z9 rfl rfl rfl ?_ | refine x9 rfl rfl rfl ?_); simp (maxSteps := 2000000) (disch := omega) only [go_sem, seval, hd, cb, ruleD, configD, spotD, q9, q1, q2]; (first | refine ⟨_, so, ?_⟩)) | ((first | refine x7 [7] rfl ?_ | refine j7 [7] rfl ?_); simp (maxSteps := 2000000) (disch := omega) only [go_sem, seval, hd, cb, ruleD, configD, spotD, q9, q1, q2]; (repeat (first | refine ⟨by omega, ?_⟩ | refine ⟨keyTy_cube, ?_⟩)))))
      refine awp_slot 4 _ (.p (.d (.sl 4 ([] : List Cube).length (rowC [])))) rfl (le_nil 4 _ _ rfl) ?_
      refine j8 ⟨_, ?_, rfl⟩; rw [Try.results24]; simp (disch := omega) only [ResVars, ResVar, ptrLoc, go_sem, seval, hd, cb, ruleD, configD, spotD, q9, q1, q2]
set_option maxRecDepth 100000 in
set_option maxHeartbeats 4000000 in
theorem Sets_good (c : Config) (v : Int) (hc : c.small) (h : soundC c = 0) (hv : 0 ≤ v ∧ v ≤ 255) (he : (edgesT c.tp).length ≤ 1000) (ht : cnt3 c.tb ≤ 100000) : ACalls Try.prog 24 [.agg (configD c), .d (.v (.int .i64 v))] (· = [.d (.sl 4 (setsL c v).length (rowC (setsL c v))), .d (.v (.int .i64 0))]) := by
  have so := SoundC_c c hc
  have ed := EdgesT_c c.tp hc.tp
  unfold setsL setsE
  have hst : ∀ i, i < (edgesT c.tp).length → stampE c ((edgesT c.tp).getD i s0) v = 0 := fun i hi => by
    unfold stampE
    rw [if_neg (by simp [h]), if_neg (by omega), if_neg]
    unfold edgesHas
    simp only [Bool.not_eq_false, List.contains_iff_mem]
    exact getD_in hi s0
  generalize edgesT c.tp = l at ed he hst
  obtain ⟨R, hR⟩ : ∃ x, l.foldl (stampF c v) [] = x := ⟨_, rfl⟩
  have hRl : R.length ≤ 1000 := by
    have := foldl_len (stampF c v) (fun L a => addC_len L _) l []
    rw [hR] at this; simp at this; omega
  rw [hR]
  rw [h] at so
  have q1 : decide (v < 0) = false := decide_eq_false (by omega)
  have q2 : decide (255 < v) = false := decide_eq_false (by omega)
  refine q11 Try.func24 rfl (by decide +kernel) (by rw [Try.ntmps24]; simp) ?_; rw [Try.ntmps24]; simp only [frOf]
  (repeat (first | refine j0 ?_ | refine q7 rfl ?_ | refine z7 rfl ?_ | refine x6 ?_ | (refine z5 fun K hK => ?_) | (refine j5 (by kernel_rfl) (by kernel_rfl) fun K hK => ?_) | ((first | refine q6 ?_ | refine z6 ?_ | ((first | refine z3 (hK _ ?_) | refine j4 (hK _ _ (z4 (by kernel_rfl)) ?_)); clear hK K)); (first | show AWP _ _ _ _ _ | ((try simp only [j6]); first | show loopQ _ _ _ _ _ _ | show cutQ _ _ _ _ | show AWP _ _ _ _ _))) | ((first | refine z9 rfl rfl rfl ?_ | refine x9 rfl rfl rfl ?_); simp (maxSteps := 2000000) (disch := omega) only [go_sem, seval, hd, cb, ruleD, configD, spotD, q9, q1, q2]; (first | refine ⟨_, so, ?_⟩)) | ((first | refine x7 [7] rfl ?_ | refine j7 [7] rfl ?_); simp (maxSteps := 2000000) (disch := omega) only [go_sem, seval, hd, cb, ruleD, configD, spotD, q9, q1, q2]; (repeat (first | refine ⟨by omega, ?_⟩ | refine ⟨keyTy_cube, ?_⟩)))))
  (refine walkS_cons _ (step_mcall [(3, 601), (1, 602)] rfl rfl rfl rfl rfl rfl (fresh_c) rfl (namesOK_of (by repeat (first | exact trivial | refine ⟨rfl, ?_⟩)) (by kernel_rfl))) ?_); simp (maxSteps := 2000000) (disch := omega) only [go_sem, seval, hd, cb, ruleD, configD, spotD, q9, q1, q2]
  (repeat ((fail_if_success (show AWP _ _ (.region 7 _ _) _ _)); first | refine j0 ?_ | refine q7 rfl ?_ | refine z7 rfl ?_ | refine x6 ?_ | (refine z5 fun K hK => ?_) | (refine j5 (by kernel_rfl) (by kernel_rfl) fun K hK => ?_) | ((first | refine q6 ?_ | refine z6 ?_ | ((first | refine z3 (hK _ ?_) | refine j4 (hK _ _ (z4 (by kernel_rfl)) ?_)); clear hK K)); (first | show AWP _ _ _ _ _ | ((try simp only [j6]); first | show loopQ _ _ _ _ _ _ | show cutQ _ _ _ _ | show AWP _ _ _ _ _))) | ((first | refine x7 [7] rfl ?_ | refine j7 [7] rfl ?_); simp (maxSteps := 2000000) (disch := omega) only [go_sem, seval, hd, cb, ruleD, configD, spotD, q9, q1, q2]; (repeat (first | refine ⟨by omega, ?_⟩ | refine ⟨keyTy_cube, ?_⟩)))))
  refine awp_ownCell 601 603 0 4 27 (rowC []) rfl rfl (by omega) (by kernel_rfl) rfl ?_
  (repeat (first | refine j0 ?_ | refine q7 rfl ?_ | refine z7 rfl ?_ | refine x6 ?_ | (refine z5 fun K hK => ?_) | (refine j5 (by kernel_rfl) (by kernel_rfl) fun K hK => ?_) | ((first | refine q6 ?_ | refine z6 ?_ | ((first | refine z3 (hK _ ?_) | refine j4 (hK _ _ (z4 (by kernel_rfl)) ?_)); clear hK K)); (first | show AWP _ _ _ _ _ | ((try simp only [j6]); first | show loopQ _ _ _ _ _ _ | show cutQ _ _ _ _ | show AWP _ _ _ _ _))) | ((first | refine z9 rfl rfl rfl ?_ | refine x9 rfl rfl rfl ?_); simp (maxSteps := 2000000) (disch := omega) only [go_sem, seval, hd, cb, ruleD, configD, spotD, q9, q1, q2]; (first | refine ⟨_, ed, ?_⟩)) | ((first | refine x7 [7] rfl ?_ | refine j7 [7] rfl ?_); simp (maxSteps := 2000000) (disch := omega) only [go_sem, seval, hd, cb, ruleD, configD, spotD, q9, q1, q2]; (repeat (first | refine ⟨by omega, ?_⟩ | refine ⟨keyTy_cube, ?_⟩)))))
  refine awp_loop (setsI c v l R) (fun s => l.length - s.val.1) ⟨(0, []), by omega, by rw [List.drop_zero]; exact hR, by simp⟩ ?_ (fun s => ?_)
  · unfold setsI
    refine Weak.list ?_ ?_; (all_goals simp (disch := omega) only [AllF, AllL, q10, z10, j9, exists_eq_left', Option.some.injEq, go_sem, seval, hd, cb, ruleD, configD, spotD, q9, q1, q2]); (all_goals (repeat' (with_reducible apply And.intro))); (all_goals try (first | exact q8 rfl | (refine x10 ?_; omega) | (refine q8 ?_; simp; done)))
    · exact LLe.refl _
    · exact LLe.refl _
  obtain ⟨⟨i, L⟩, hi, h1, h2⟩ := s
  simp only [] at hi h1 h2
  unfold setsI
  simp only []
  by_cases hn : i < l.length
  · have r1 := rowS_at l i
    have hs0 := hst i hn
    rw [drop_getD l i s0 hn] at h1
    simp only [List.foldl_cons] at h1
    generalize l.getD i s0 = s at r1 hs0 h1
    have st := StampC_c c s v hc (by omega)
    rw [hs0] at st
    have ad := add_c L (stampC c s v) (by omega)
    have al := addC_len L (stampC c s v)
    unfold stampF at h1
    generalize addC L (stampC c s v) = L2 at ad al h1
    generalize stampC c s v = k at st ad
    unfold lstL lstA at ad
    (repeat (first | refine j0 ?_ | refine q7 rfl ?_ | refine z7 rfl ?_ | refine x6 ?_ | (refine z5 fun K hK => ?_) | (refine j5 (by kernel_rfl) (by kernel_rfl) fun K hK => ?_) | ((first | refine q6 ?_ | refine z6 ?_ | ((first | refine z3 (hK _ ?_) | refine j4 (hK _ _ (z4 (by kernel_rfl)) ?_)); clear hK K)); (first | show AWP _ _ _ _ _ | ((try simp only [j6]); first | show loopQ _ _ _ _ _ _ | show cutQ _ _ _ _ | show AWP _ _ _ _ _))) | ((first | refine z9 rfl rfl rfl ?_ | refine x9 rfl rfl rfl ?_); simp (maxSteps := 2000000) (disch := omega) only [go_sem, seval, hd, cb, ruleD, configD, spotD, q9, r1]; (first | refine ⟨_, st, ?_⟩)) | ((first | refine x7 [7] rfl ?_ | refine j7 [7] rfl ?_); simp (maxSteps := 2000000) (disch := omega) only [go_sem, seval, hd, cb, ruleD, configD, spotD, q9, r1]; (repeat (first | refine ⟨by omega, ?_⟩ | refine ⟨keyTy_cube, ?_⟩)))))
    (refine walkS_cons _ (step_mcall [(1000, 601), (1001, 602), (1002, 603)] rfl rfl rfl rfl rfl rfl (ad) rfl (namesOK_of (by repeat (first | exact trivial | refine ⟨rfl, ?_⟩)) (by kernel_rfl))) ?_); simp (maxSteps := 2000000) (disch := omega) only [go_sem, seval, hd, cb, ruleD, configD, spotD, q9, r1]
    (repeat (first | refine j0 ?_ | refine q7 rfl ?_ | refine z7 rfl ?_ | refine x6 ?_ | (refine z5 fun K hK => ?_) | (refine j5 (by kernel_rfl) (by kernel_rfl) fun K hK => ?_) | ((first | refine q6 ?_ | refine z6 ?_ | ((first | refine z3 (hK _ ?_) | refine j4 (hK _ _ (z4 (by kernel_rfl)) ?_)); clear hK K)); (first | show AWP _ _ _ _ _ | ((try simp only [j6]); first | show loopQ _ _ _ _ _ _ | show cutQ _ _ _ _ | show AWP _ _ _ _ _))) | ((first | refine x7 [7] rfl ?_ | refine j7 [7] rfl ?_); simp (maxSteps := 2000000) (disch := omega) only [go_sem, seval, hd, cb, ruleD, configD, spotD, q9, r1]; (repeat (first | refine ⟨by omega, ?_⟩ | refine ⟨keyTy_cube, ?_⟩)))))
    refine ⟨⟨(i + 1, L2), by simp only []; omega, h1, by simp only []; omega⟩, by simp only []; omega, ?_⟩
    refine Weak.list ?_ ?_; (all_goals simp (disch := omega) only [AllF, AllL, q10, z10, j9, exists_eq_left', Option.some.injEq, go_sem, seval, hd, cb, ruleD, configD, spotD, q9, r1]); (all_goals (repeat' (with_reducible apply And.intro))); (all_goals try (first | exact q8 rfl | (refine x10 ?_; omega) | (refine q8 ?_; simp; done)))
  · have : i = l.length := by omega
    subst this
    rw [List.drop_length] at h1
    obtain rfl : L = R := h1
    obtain ⟨R2, hR2⟩ : ∃ x, fold3 setF c.tb L = x := ⟨_, rfl⟩
    have ru := rulesP_c c hc 53 setF L R2 setP_c setF_len (by omega) hR2
    rw [hR2]
    unfold lstL lstA at ru
    (repeat ((fail_if_success (show AWP _ _ (.region 15 _ _) _ _)); first | refine j0 ?_ | refine q7 rfl ?_ | refine z7 rfl ?_ | refine x6 ?_ | (refine z5 fun K hK => ?_) | (refine j5 (by kernel_rfl) (by kernel_rfl) fun K hK => ?_) | ((first | refine q6 ?_ | refine z6 ?_ | ((first | refine z3 (hK _ ?_) | refine j4 (hK _ _ (z4 (by kernel_rfl)) ?_)); clear hK K)); (first | show AWP _ _ _ _ _ | ((try simp only [j6]); first | show loopQ _ _ _ _ _ _ | show cutQ _ _ _ _ | show AWP _ _ _ _ _))) | ((first | refine x7 [7] rfl ?_ | refine j7 [7] rfl ?_); simp (maxSteps := 2000000) (disch := omega) only [go_sem, seval, hd, cb, ruleD, configD, spotD, q9, Option.bind_none, Option.map_none]; (repeat (first | refine ⟨by omega, ?_⟩ | refine ⟨keyTy_cube, ?_⟩)))))
    refine z5 fun K hK => ?_
    (first | refine walkS_op2 [7] rfl rfl ?_ | refine walkD_op2 [7] rfl rfl ?_ | refine walkS_skip rfl rfl ?_ | refine walkD_skip rfl rfl ?_)
    simp (maxSteps := 2000000) (disch := omega) only [go_sem, seval, hd, cb, ruleD, configD, spotD, q9, Option.bind_none, Option.map_none]
    refine walkS_cons _ (step_loadC [.loc 601 0] rfl ty117 rfl rfl rfl rfl rfl rfl rfl) ?_
    simp (maxSteps := 2000000) (disch := omega) only [go_sem, seval, hd, cb, ruleD, configD, spotD, q9, Option.bind_none, Option.map_none]
    (repeat (first | refine j0 ?_ | refine q7 rfl ?_ | refine z7 rfl ?_ | refine x6 ?_ | (refine z5 fun K hK => ?_) | (refine j5 (by kernel_rfl) (by kernel_rfl) fun K hK => ?_) | ((first | refine q6 ?_ | refine z6 ?_ | ((first | refine z3 (hK _ ?_) | refine j4 (hK _ _ (z4 (by kernel_rfl)) ?_)); clear hK K)); (first | show AWP _ _ _ _ _ | ((try simp only [j6]); first | show loopQ _ _ _ _ _ _ | show cutQ _ _ _ _ | show AWP _ _ _ _ _))) | ((first | refine x7 [7] rfl ?_ | refine j7 [7] rfl ?_); simp (maxSteps := 2000000) (disch := omega) only [go_sem, seval, hd, cb, ruleD, configD, spotD, q9, Option.bind_none, Option.map_none]; (repeat (first | refine ⟨by omega, ?_⟩ | refine ⟨keyTy_cube, ?_⟩)))))
    (refine walkS_cons _ (step_mcall [(1000, 601), (1001, 602), (1002, 603)] rfl rfl rfl rfl rfl rfl (ru) rfl (namesOK_of (by repeat (first | exact trivial | refine ⟨rfl, ?_⟩)) (by kernel_rfl))) ?_); simp (maxSteps := 2000000) (disch := omega) only [go_sem, seval, hd, cb, ruleD, configD, spotD, q9, Option.bind_none, Option.map_none]
    (repeat (first | refine j0 ?_ | refine q7 rfl ?_ | refine z7 rfl ?_ | refine x6 ?_ | (refine z5 fun K hK => ?_) | (refine j5 (by kernel_rfl) (by kernel_rfl) fun K hK => ?_) | ((first | refine q6 ?_ | refine z6 ?_ | ((first | refine z3 (hK _ ?_) | refine j4 (hK _ _ (z4 (by kernel_rfl)) ?_)); clear hK K)); (first | show AWP _ _ _ _ _ | ((try simp only [j6]); first | show loopQ _ _ _ _ _ _ | show cutQ _ _ _ _ | show AWP _ _ _ _ _))) | ((first | refine x7 [7] rfl ?_ | refine j7 [7] rfl ?_); simp (maxSteps := 2000000) (disch := omega) only [go_sem, seval, hd, cb, ruleD, configD, spotD, q9, Option.bind_none, Option.map_none]; (repeat (first | refine ⟨by omega, ?_⟩ | refine ⟨keyTy_cube, ?_⟩)))))
    refine walkS_weak (Weak.freeze _ 56 603 R2.length 4 R2.length 27 (rowC R2) rfl rfl) ?_
    have hR3 : R2.length ≤ 101000 := by
      have := fold3_len setF setF_len c.tb L
      rw [hR2] at this; omega
    have cp := Clip_c R2.length (rowC R2) (by omega)
    simp (maxSteps := 2000000) (disch := omega) only [go_sem, seval, hd, cb, ruleD, configD, spotD, q9, Option.bind_none, Option.map_none, look_dropL]
    (repeat (first | refine j0 ?_ | refine q7 rfl ?_ | refine z7 rfl ?_ | refine x6 ?_ | (refine z5 fun K hK => ?_) | (refine j5 (by kernel_rfl) (by kernel_rfl) fun K hK => ?_) | ((first | refine q6 ?_ | refine z6 ?_ | ((first | refine z3 (hK _ ?_) | refine j4 (hK _ _ (z4 (by kernel_rfl)) ?_)); clear hK K)); (first | show AWP _ _ _ _ _ | ((try simp only [j6]); first | show loopQ _ _ _ _ _ _ | show cutQ _ _ _ _ | show AWP _ _ _ _ _))) | ((first | refine z9 rfl rfl rfl ?_ | refine x9 rfl rfl rfl ?_); simp (maxSteps := 2000000) (disch := omega) only [go_sem, seval, hd, cb, ruleD, configD, spotD, q9, Option.bind_none, Option.map_none, look_dropL]; (first | refine ⟨_, cp, ?_⟩)) | ((first | refine x7 [7] rfl ?_ | refine j7 [7] rfl ?_); simp (maxSteps := 2000000) (disch := omega) only [go_sem, seval, hd, cb, ruleD, configD, spotD, q9, Option.bind_none, Option.map_none, look_dropL]; (repeat (first | refine ⟨by omega, ?_⟩ | refine ⟨keyTy_cube, ?_⟩)))))
    refine j8 ⟨_, ?_, rfl⟩; rw [Try.results24]; simp (disch := omega) only [ResVars, ResVar, ptrLoc, go_sem, seval, hd, cb, ruleD, configD, spotD, q9, Option.bind_none, Option.map_none, look_dropL]
end Go.Proofs.Ytbamjcnhmmgnlaa
set_option linter.unusedSimpArgs false
set_option linter.unusedVariables false
namespace Go.Proofs.Ytbamjcnhmmgnlaa
open Go Go.Proofs.Ytbamjcnhmmgnlaa.AL
def onesA (x : Int) : Int := IntKind.u64.wrap (bits .and .u64 (x / 2 ^ min 1 64) 6148914691236517205 + bits .and .u64 x 6148914691236517205)
def onesB (x : Int) : Int := IntKind.u64.wrap (bits .and .u64 (x / 2 ^ min 2 64) 3689348814741910323 + bits .and .u64 x 3689348814741910323)
def onesC (x : Int) : Int := bits .and .u64 (IntKind.u64.wrap (x / 2 ^ min 4 64 + x)) 1085102592571150095
def onesD (x : Int) (n : Nat) : Int := IntKind.u64.wrap (x + x / 2 ^ min n 64)
def onesI (x : Int) : Int := bits .and .i64 (IntKind.i64.wrap (onesD (onesD (onesD (onesC (onesB (onesA x))) 8) 16) 32)) 127
theorem ones64_c (x : Int) : ACalls Try.prog 119 [.d (.v (.int .u64 x))] (· = [.d (.v (.int .i64 (onesI x)))]) := by
  unfold onesI onesD onesC onesB onesA
  refine q11 Try.func119 rfl (by decide +kernel) (by rw [Try.ntmps119]; simp) ?_; rw [Try.ntmps119]; simp only [frOf]
  (repeat (first | refine j0 ?_ | refine q7 rfl ?_ | refine z7 rfl ?_ | refine x6 ?_ | (refine z5 fun K hK => ?_) | (refine j5 (by kernel_rfl) (by kernel_rfl) fun K hK => ?_) | ((first | refine q6 ?_ | refine z6 ?_ | ((first | refine z3 (hK _ ?_) | refine j4 (hK _ _ (z4 (by kernel_rfl)) ?_)); clear hK K)); (first | show AWP _ _ _ _ _ | ((try simp only [j6]); first | show loopQ _ _ _ _ _ _ | show cutQ _ _ _ _ | show AWP _ _ _ _ _))) | ((first | refine x7 [] rfl ?_ | refine j7 [] rfl ?_); simp (maxSteps := 2000000) (disch := omega) only [go_sem, seval, hd, cb]; (repeat (first | refine ⟨by omega, ?_⟩ | refine ⟨True.intro, ?_⟩)))))
  refine j8 ⟨_, ?_, rfl⟩; rw [Try.results119]; simp (disch := omega) only [ResVars, ResVar, ptrLoc, go_sem, seval, hd, cb]
theorem bits_127 (y : Int) : 0 ≤ bits .and .i64 y 127 ∧ bits .and .i64 y 127 ≤ 127 := by
  show 0 ≤ IntKind.i64.wrap (((BitVec.ofInt 64 y &&& BitVec.ofInt 64 127).toNat : Nat) : Int) ∧ IntKind.i64.wrap (((BitVec.ofInt 64 y &&& BitVec.ofInt 64 127).toNat : Nat) : Int) ≤ 127
  have h : (BitVec.ofInt 64 y &&& BitVec.ofInt 64 127).toNat ≤ 127 := by
    rw [BitVec.toNat_and]
    exact Nat.le_trans Nat.and_le_right (by decide)
  generalize (BitVec.ofInt 64 y &&& BitVec.ofInt 64 127).toNat = n at h
  rw [wi (by omega)]
  omega
theorem onesI_le (x : Int) : 0 ≤ onesI x ∧ onesI x ≤ 127 := bits_127 _
def onesK (k : Cube) : Int := onesI (hi k.c) + onesI (lo k.c)
theorem onesK_le (k : Cube) : 0 ≤ onesK k ∧ onesK k ≤ 254 := by
  have := onesI_le (hi k.c)
  have := onesI_le (lo k.c)
  unfold onesK; omega
theorem Ones_c (k : Cube) : ACalls Try.prog 90 [.agg (hd k.c)] (· = [.d (.v (.int .i64 (onesK k)))]) := by
  have h1 := ones64_c (hi k.c)
  have h2 := ones64_c (lo k.c)
  have l1 := onesI_le (hi k.c)
  have l2 := onesI_le (lo k.c)
  unfold onesK
  generalize onesI (hi k.c) = a at h1 l1
  generalize onesI (lo k.c) = b at h2 l2
  refine q11 Try.func90 rfl (by decide +kernel) (by rw [Try.ntmps90]; simp) ?_; rw [Try.ntmps90]; simp only [frOf]
  (repeat (first | refine j0 ?_ | refine q7 rfl ?_ | refine z7 rfl ?_ | refine x6 ?_ | (refine z5 fun K hK => ?_) | (refine j5 (by kernel_rfl) (by kernel_rfl) fun K hK => ?_) | ((first | refine q6 ?_ | refine z6 ?_ | ((first | refine z3 (hK _ ?_) | refine j4 (hK _ _ (z4 (by kernel_rfl)) ?_)); clear hK K)); (first | show AWP _ _ _ _ _ | ((try simp only [j6]); first | show loopQ _ _ _ _ _ _ | show cutQ _ _ _ _ | show AWP _ _ _ _ _))) | ((first | refine z9 rfl rfl rfl ?_ | refine x9 rfl rfl rfl ?_); simp (maxSteps := 2000000) (disch := omega) only [go_sem, seval, hd, cb]; (first | refine ⟨_, h1, ?_⟩ | refine ⟨_, h2, ?_⟩)) | ((first | refine x7 [] rfl ?_ | refine j7 [] rfl ?_); simp (maxSteps := 2000000) (disch := omega) only [go_sem, seval, hd, cb]; (repeat (first | refine ⟨by omega, ?_⟩ | refine ⟨True.intro, ?_⟩)))))
  refine j8 ⟨_, ?_, rfl⟩; rw [Try.results90]; simp (disch := omega) only [ResVars, ResVar, ptrLoc, go_sem, seval, hd, cb]
theorem wide_c (a b : Cube) : ACalls Try.prog 62 [.agg (cb a), .agg (cb b)] (· = [.d (.v (.int .i64 (onesK a - onesK b)))]) := by
  have h1 := Ones_c a
  have h2 := Ones_c b
  have l1 := onesK_le a
  have l2 := onesK_le b
  generalize onesK a = x at h1 l1
  generalize onesK b = y at h2 l2
  unfold hd at h1 h2
  refine q11 Try.func62 rfl (by decide +kernel) (by rw [Try.ntmps62]; simp) ?_; rw [Try.ntmps62]; simp only [frOf]
  (repeat (first | refine j0 ?_ | refine q7 rfl ?_ | refine z7 rfl ?_ | refine x6 ?_ | (refine z5 fun K hK => ?_) | (refine j5 (by kernel_rfl) (by kernel_rfl) fun K hK => ?_) | ((first | refine q6 ?_ | refine z6 ?_ | ((first | refine z3 (hK _ ?_) | refine j4 (hK _ _ (z4 (by kernel_rfl)) ?_)); clear hK K)); (first | show AWP _ _ _ _ _ | ((try simp only [j6]); first | show loopQ _ _ _ _ _ _ | show cutQ _ _ _ _ | show AWP _ _ _ _ _))) | ((first | refine z9 rfl rfl rfl ?_ | refine x9 rfl rfl rfl ?_); simp (maxSteps := 2000000) (disch := omega) only [go_sem, seval, hd, cb]; (first | refine ⟨_, h1, ?_⟩ | refine ⟨_, h2, ?_⟩)) | ((first | refine x7 [] rfl ?_ | refine j7 [] rfl ?_); simp (maxSteps := 2000000) (disch := omega) only [go_sem, seval, hd, cb]; (repeat (first | refine ⟨by omega, ?_⟩ | refine ⟨True.intro, ?_⟩)))))
  refine j8 ⟨_, ?_, rfl⟩; rw [Try.results62]; simp (disch := omega) only [ResVars, ResVar, ptrLoc, go_sem, seval, hd, cb]
end Go.Proofs.Ytbamjcnhmmgnlaa
