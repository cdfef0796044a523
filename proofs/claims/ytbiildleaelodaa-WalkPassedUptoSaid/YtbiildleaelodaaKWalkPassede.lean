/- Part 5 of a proof: lemmas beneath the theorem that the last text bears. Conditions: none. -/
import Derived.Test.YtbiildleaelodaaKWalkPassedd
set_option linter.unusedSimpArgs false
set_option linter.unusedVariables false
namespace Go.Proofs.Ytbiildleaelodaa
open Go.Proofs.Ytbiildleaelodaa.AL
set_option maxRecDepth 100000 in
theorem step_go (c : Config) (n t a : Nat) (h : BitVec 128) (hops : List Hop) (hc : c.small) (hs : soundC c = 0) (hw : InW c n t) (hk : hops.length ≤ 100000) (hf : findR (tabW c n t) h = some a) (he : stepE ((tabW c n t).getD a r0) = 0) :
    MCalls Try.prog 56 [.loc 1000 0] (wkL c n t h 0 0 0 hops) (fun rs M => rs = [.p (.d (.v (.bool true)))] ∧
      M = wkL c ((stepN c n ((tabW c n t).getD a r0)).toNat : Nat) ((stepT t ((tabW c n t).getD a r0)).toNat : Nat) (setH h ((tabW c n t).getD a r0).st) 0 0 0 (hops ++ [⟨n, t, a, h⟩])) := by
  have hp := inW_port hs hw hf
  obtain ⟨p1, p2, -⟩ := inW_next hs hw hf he
  unfold tabW at *
  generalize hx : (((c.tb.getD n []).getD t []).getD a r0) = x at *
  have h1 := step_some c n t a h hops x hc (sound_parts hs).1 hw.n1 hw.n2 hw.t1 hk hf hx hp
  have s4 : stepA n x = (0, 0) := if_neg (by rcases step_ends he with h | h <;> omega)
  rw [s4, he] at h1
  rw [Int.toNat_of_nonneg p1, Int.toNat_of_nonneg p2]
  exact h1
set_option maxRecDepth 100000 in
theorem step_stop (c : Config) (n t a : Nat) (h : BitVec 128) (hops : List Hop) (hc : c.small) (hs : soundC c = 0) (hw : InW c n t) (hk : hops.length ≤ 100000) (hf : findR (tabW c n t) h = some a) (he : stepE ((tabW c n t).getD a r0) ≠ 0) :
    MCalls Try.prog 56 [.loc 1000 0] (wkL c n t h 0 0 0 hops) (fun rs M => rs = [.p (.d (.v (.bool false)))] ∧
      M = wkL c (stepN c n ((tabW c n t).getD a r0)) (stepT t ((tabW c n t).getD a r0)) (setH h ((tabW c n t).getD a r0).st) (stepE ((tabW c n t).getD a r0)) (stepA n ((tabW c n t).getD a r0)).1 (stepA n ((tabW c n t).getD a r0)).2 (hops ++ [⟨n, t, a, h⟩])) := by
  have hp := inW_port hs hw hf
  unfold tabW at *
  generalize hx : (((c.tb.getD n []).getD t []).getD a r0) = x at *
  have h1 := step_some c n t a h hops x hc (sound_parts hs).1 hw.n1 hw.n2 hw.t1 hk hf hx hp
  rw [ieq_ff he] at h1
  exact h1
def runD (r : RunR) : List Dat := [.v (.int .i64 r.en), .v (.int .i64 r.an), .v (.int .i64 r.ap), .sl 5 r.hops.length (rowH r.hops)]
structure WSt (c : Config) (R : RunR) where
  i : Nat
  n : Nat
  t : Nat
  h : BitVec 128
  hops : List Hop
  hi : i ≤ 10800
  hl : hops.length = i
  hw : InW c n t
  hg : goW c (10800 - i) n t h hops = R
def wkAt (c : Config) (n t : Int) (h : BitVec 128) (en an ap : Int) (hops : AV) : LV :=
  .cells 115 [.p (.d (.sl 1 c.tp.length (rowPP c.tp))), .p (.d (.v (.int .i64 c.po.tn))), .p (.d (.sl 2 c.po.peers.length (rowA c.po.peers))), .p (.d (.sl 3 c.po.ways.length (rowW c.po.ways))), .p (.d (.sl 1 c.tb.length (rowTT c.tb))),
    .p (.d (.v (.int .i64 n))), .p (.d (.v (.int .i64 t))), .p (.d (.v (.int .u64 (hi h)))), .p (.d (.v (.int .u64 (lo h)))), .p (.d (.v (.int .i64 en))), .p (.d (.v (.int .i64 an))), .p (.d (.v (.int .i64 ap))), hops]
def runZ : LV := .cells 83 [.p (.d (.v (.int .i64 0))), .p (.d (.v (.int .i64 0))), .p (.d (.v (.int .i64 0))), .p (.d (.v (.slice none 0 0)))]
def runI (c : Config) (R : RunR) (s : WSt c R) : ASt :=
  ⟨[(36, .p (.d (.v (.int .i64 (s.i : Int))))), (13, .cl (.func 56) [.loc 33 0] []), (12, .loc 33 0), (8, .loc 8 0)],
   [(33, wkAt c s.n s.t s.h 0 0 0 (.gr 5 s.hops.length 5 s.hops.length (rowH s.hops))), (5, .grow 92 5 s.hops.length s.hops.length), (8, runZ)]⟩
theorem run_out {c : Config} {n t : Int} {h : BitVec 128} {en an ap : Int} {l : List Hop} {k : Code} {Q : Exit → ASt → Prop} {A : ASt} {g : Nat} (h1 : AL.look A.fr 12 = some (.loc 33 0)) (h2 : AL.look A.fr 8 = some (.loc 8 0))
    (h3 : AL.look A.locs 33 = some (wkAt c n t h en an ap (.gr 5 g 5 l.length (rowH l)))) (h4 : AL.look A.locs 8 = some runZ)
    (hk : AWP Try.prog 54 k Q ⟨[(12, .loc 33 0), (8, .loc 8 0)], [(33, wkAt c n t h en an ap (.p (.d (.sl 5 l.length (rowH l))))), (8, runZ)]⟩) : AWP Try.prog 54 k Q A := by
  refine awp_weak (A' := ⟨[(12, .loc 33 0), (8, .loc 8 0)], [(33, wkAt c n t h en an ap (.p (.d (.sl 5 l.length (rowH l))))), (8, runZ)]⟩) (Weak.list ⟨⟨_, h1, Le.refl _⟩, ⟨_, h2, Le.refl _⟩, trivial⟩ ⟨⟨_, h3, ?_⟩, ⟨_, h4, of_eq_true (x8 _)⟩, trivial⟩) hk
  refine lle_cellsD ?_
  iterate 12 (refine LesD.cons (Le.refl _) ?_)
  exact .cons (le_gr rfl fun i hi => rfl) .nil
set_option maxRecDepth 100000 in
set_option maxHeartbeats 8000000 in
theorem Run_good (c : Config) (s : Spot) (h : BitVec 128) (v : Int) (R : RunR) (hc : c.small) (hv : -9223372036854775808 ≤ v ∧ v < 9223372036854775808) (he : stampE c s v = 0) (hs : soundC c = 0) (n : Nat) (hn : s.sw = n) (hw : InW c n 0)
    (hR : goW c 10800 n 0 (setH h (stampC c s v)) [] = R) :
    ACalls Try.prog 36 [.agg (configD c), .agg (spotD s), .agg (hd h), .d (.v (.int .i64 v))] (· = [.agg (runD R), .d (.v (.int .i64 0))]) := by
  have s1 := StampC_c c s v hc hv
  rw [he] at s1
  generalize stampC c s v = sc at *
  have s2 := Set_c h sc
  generalize setH h sc = h' at *
  obtain ⟨sw, po⟩ := s
  cases hn
  unfold configD spotD at *
  refine z10 Try.func36 rfl (by decide +kernel) (by rw [Try.ntmps36]; simp) ?_; rw [Try.ntmps36]; simp only [frOf]
  (repeat (first | refine j0 ?_ | refine j6 rfl ?_ | refine q7 rfl ?_ | refine x6 ?_ | (refine x4 fun K hK => ?_) | (refine j4 (by kernel_rfl) (by kernel_rfl) fun K hK => ?_) | ((first | refine q6 ?_ | refine z6 ?_ | ((first | refine z2 (hK _ ?_) | refine j5 (hK _ _ (x5 (by kernel_rfl)) ?_)); clear hK K)); (first | show AWP _ _ _ _ _ | ((try simp only [j7]); first | show loopQ _ _ _ _ _ _ | show cutQ _ _ _ _ | show AWP _ _ _ _ _))) | ((first | refine j9 rfl rfl rfl ?_ | refine q10 rfl rfl rfl ?_); simp (maxSteps := 2000000) (disch := omega) only [go_sem, seval, hd, cb, ruleD, portD]; (first | refine ⟨_, s1, ?_⟩ | refine ⟨_, s2, ?_⟩)) | ((first | refine z7 [8, 10, 33] rfl ?_ | refine x7 [8, 10, 33] rfl ?_); simp (maxSteps := 2000000) (disch := omega) only [go_sem, seval, hd, cb, ruleD, portD]; (repeat (first | refine ⟨by omega, ?_⟩ | refine ⟨True.intro, ?_⟩)))))
  refine awp_growCell 33 5 12 5 92 (rowH []) rfl rfl (by omega) (by kernel_rfl) rfl ?_
  refine awp_loop (runI c R) (fun s => 10800 - s.i) ⟨0, n, 0, h', [], by omega, rfl, hw, by rw [Nat.sub_zero]; exact hR⟩ ?_ (fun s => ?_)
  · unfold runI wkAt runZ
    refine Weak.list ?_ ?_; (all_goals simp (disch := omega) only [AllF, AllL, j8, q9, x8, exists_eq_left', Option.some.injEq, go_sem, seval, hd, cb, ruleD, portD]); (all_goals (repeat' (with_reducible apply And.intro))); (all_goals try (first | exact q8 rfl | (refine x9 ?_; omega) | (refine q8 ?_; simp; done)))
    exact of_eq_true (x8 _)
  obtain ⟨i, n, t, h, hops, hi, hl, hw, hg⟩ := s
  have hk : hops.length ≤ 100000 := by omega
  unfold runI wkAt runZ
  by_cases hi2 : i < 10800
  · obtain ⟨f, hf⟩ : ∃ f, 10800 - i = f + 1 := ⟨10800 - i - 1, by omega⟩
    rw [hf] at hg
    cases hfi : findR (tabW c n t) h with
    | none =>
      have k1 := step_none c n t h hops hc hw.n1 hw.t1 hk hfi
      unfold wkL wkC at k1
      obtain ⟨y, hy⟩ : ∃ y, y = hops ++ [⟨n, t, -1, h⟩] := ⟨_, rfl⟩
      rw [← hy] at k1
      have hR2 : R = ⟨3, 0, 0, y⟩ := by rw [← hg, hy]; unfold goW; rw [hfi]
      clear hg hR
      subst hR2
      unfold runD
      (repeat (first | refine j0 ?_ | refine j6 rfl ?_ | refine q7 rfl ?_ | refine x6 ?_ | (refine x4 fun K hK => ?_) | (refine j4 (by kernel_rfl) (by kernel_rfl) fun K hK => ?_) | ((first | refine q6 ?_ | refine z6 ?_ | ((first | refine z2 (hK _ ?_) | refine j5 (hK _ _ (x5 (by kernel_rfl)) ?_)); clear hK K)); (first | show AWP _ _ _ _ _ | ((try simp only [j7]); first | show loopQ _ _ _ _ _ _ | show cutQ _ _ _ _ | show AWP _ _ _ _ _))) | ((first | refine z7 [8, 10, 33] rfl ?_ | refine x7 [8, 10, 33] rfl ?_); simp (maxSteps := 2000000) (disch := omega) only [go_sem, seval, hd, cb, ruleD, portD]; (repeat (first | refine ⟨by omega, ?_⟩ | refine ⟨True.intro, ?_⟩)))))
      (refine walkS_cons _ (step_mcall [(1000, 33), (1001, 5)] rfl rfl rfl rfl rfl rfl (k1) rfl (z11 (by repeat (first | exact trivial | refine ⟨rfl, ?_⟩)) (by kernel_rfl))) ?_); simp (maxSteps := 2000000) (disch := omega) only [go_sem, seval, hd, cb, ruleD, portD]
      (repeat ((fail_if_success (show AWP _ _ (.region 9 _ _) _ _)); first | refine j0 ?_ | refine j6 rfl ?_ | refine q7 rfl ?_ | refine x6 ?_ | (refine x4 fun K hK => ?_) | (refine j4 (by kernel_rfl) (by kernel_rfl) fun K hK => ?_) | ((first | refine q6 ?_ | refine z6 ?_ | ((first | refine z2 (hK _ ?_) | refine j5 (hK _ _ (x5 (by kernel_rfl)) ?_)); clear hK K)); (first | show AWP _ _ _ _ _ | ((try simp only [j7]); first | show loopQ _ _ _ _ _ _ | show cutQ _ _ _ _ | show AWP _ _ _ _ _))) | ((first | refine z7 [8, 10, 33] rfl ?_ | refine x7 [8, 10, 33] rfl ?_); simp (maxSteps := 2000000) (disch := omega) only [go_sem, seval, hd, cb, ruleD, portD]; (repeat (first | refine ⟨by omega, ?_⟩ | refine ⟨True.intro, ?_⟩)))))
      refine run_out (l := y) rfl rfl rfl rfl ?_
      unfold wkAt runZ
      (repeat (first | refine j0 ?_ | refine j6 rfl ?_ | refine q7 rfl ?_ | refine x6 ?_ | (refine x4 fun K hK => ?_) | (refine j4 (by kernel_rfl) (by kernel_rfl) fun K hK => ?_) | ((first | refine q6 ?_ | refine z6 ?_ | ((first | refine z2 (hK _ ?_) | refine j5 (hK _ _ (x5 (by kernel_rfl)) ?_)); clear hK K)); (first | show AWP _ _ _ _ _ | ((try simp only [j7]); first | show loopQ _ _ _ _ _ _ | show cutQ _ _ _ _ | show AWP _ _ _ _ _))) | ((first | refine z7 [8, 10, 33] rfl ?_ | refine x7 [8, 10, 33] rfl ?_); simp (maxSteps := 2000000) (disch := omega) only [go_sem, seval, hd, cb, ruleD, portD]; (repeat (first | refine ⟨by omega, ?_⟩ | refine ⟨True.intro, ?_⟩)))))
      refine z8 ⟨_, ?_, rfl⟩; rw [Try.results36]; simp (disch := omega) only [ResVars, ResVar, ptrLoc, go_sem, seval, hd, cb, ruleD, portD]
    | some a =>
      by_cases he : stepE ((tabW c n t).getD a r0) = 0
      · have k1 := step_go c n t a h hops hc hs hw hk hfi he
        obtain ⟨-, -, w2⟩ := inW_next hs hw hfi he
        have hg2 : goW c f (stepN c n ((tabW c n t).getD a r0)).toNat (stepT t ((tabW c n t).getD a r0)).toNat (setH h ((tabW c n t).getD a r0).st) (hops ++ [⟨n, t, a, h⟩]) = R := by
          rw [← hg]; conv => rhs; unfold goW
          rw [hfi]; simp only []; rw [if_pos he]
        generalize (stepN c n ((tabW c n t).getD a r0)).toNat = n' at *
        generalize (stepT t ((tabW c n t).getD a r0)).toNat = t' at *
        generalize setH h ((tabW c n t).getD a r0).st = h2 at *
        obtain ⟨y, hy⟩ : ∃ y, y = hops ++ [⟨n, t, a, h⟩] := ⟨_, rfl⟩
        rw [← hy] at k1 hg2
        have hyl : y.length = i + 1 := by rw [hy]; simp [hl]
        unfold wkL wkC at k1
        (repeat (first | refine j0 ?_ | refine j6 rfl ?_ | refine q7 rfl ?_ | refine x6 ?_ | (refine x4 fun K hK => ?_) | (refine j4 (by kernel_rfl) (by kernel_rfl) fun K hK => ?_) | ((first | refine q6 ?_ | refine z6 ?_ | ((first | refine z2 (hK _ ?_) | refine j5 (hK _ _ (x5 (by kernel_rfl)) ?_)); clear hK K)); (first | show AWP _ _ _ _ _ | ((try simp only [j7]); first | show loopQ _ _ _ _ _ _ | show cutQ _ _ _ _ | show AWP _ _ _ _ _))) | ((first | refine z7 [8, 10, 33] rfl ?_ | refine x7 [8, 10, 33] rfl ?_); simp (maxSteps := 2000000) (disch := omega) only [go_sem, seval, hd, cb, ruleD, portD]; (repeat (first | refine ⟨by omega, ?_⟩ | refine ⟨True.intro, ?_⟩)))))
        (refine walkS_cons _ (step_mcall [(1000, 33), (1001, 5)] rfl rfl rfl rfl rfl rfl (k1) rfl (z11 (by repeat (first | exact trivial | refine ⟨rfl, ?_⟩)) (by kernel_rfl))) ?_); simp (maxSteps := 2000000) (disch := omega) only [go_sem, seval, hd, cb, ruleD, portD]
        (repeat (first | refine j0 ?_ | refine j6 rfl ?_ | refine q7 rfl ?_ | refine x6 ?_ | (refine x4 fun K hK => ?_) | (refine j4 (by kernel_rfl) (by kernel_rfl) fun K hK => ?_) | ((first | refine q6 ?_ | refine z6 ?_ | ((first | refine z2 (hK _ ?_) | refine j5 (hK _ _ (x5 (by kernel_rfl)) ?_)); clear hK K)); (first | show AWP _ _ _ _ _ | ((try simp only [j7]); first | show loopQ _ _ _ _ _ _ | show cutQ _ _ _ _ | show AWP _ _ _ _ _))) | ((first | refine z7 [8, 10, 33] rfl ?_ | refine x7 [8, 10, 33] rfl ?_); simp (maxSteps := 2000000) (disch := omega) only [go_sem, seval, hd, cb, ruleD, portD]; (repeat (first | refine ⟨by omega, ?_⟩ | refine ⟨True.intro, ?_⟩)))))
        refine ⟨⟨i + 1, n', t', h2, y, by omega, hyl, w2, by rw [show 10800 - (i + 1) = f by omega]; exact hg2⟩, by simp only []; omega, ?_⟩
        refine Weak.list ?_ ?_; (all_goals simp (disch := omega) only [AllF, AllL, j8, q9, x8, exists_eq_left', Option.some.injEq, go_sem, seval, hd, cb, ruleD, portD]); (all_goals (repeat' (with_reducible apply And.intro))); (all_goals try (first | exact q8 rfl | (refine x9 ?_; omega) | (refine q8 ?_; simp; done)))
      · have k1 := step_stop c n t a h hops hc hs hw hk hfi he
        have hR2 : R = ⟨stepE ((tabW c n t).getD a r0), (stepA n ((tabW c n t).getD a r0)).1, (stepA n ((tabW c n t).getD a r0)).2, hops ++ [⟨n, t, a, h⟩]⟩ := by
          rw [← hg]; conv => lhs; unfold goW
          rw [hfi]; simp only []; rw [if_neg he]
        generalize (stepN c n ((tabW c n t).getD a r0)) = n' at *
        generalize (stepT t ((tabW c n t).getD a r0)) = t' at *
        generalize setH h ((tabW c n t).getD a r0).st = h2 at *
        generalize stepE ((tabW c n t).getD a r0) = en at *
        generalize stepA n ((tabW c n t).getD a r0) = sa at *
        obtain ⟨an, ap⟩ := sa
        obtain ⟨y, hy⟩ : ∃ y, y = hops ++ [⟨n, t, a, h⟩] := ⟨_, rfl⟩
        rw [← hy] at k1 hR2
        clear hg hR
        subst hR2
        unfold wkL wkC at k1
        unfold runD
        (repeat (first | refine j0 ?_ | refine j6 rfl ?_ | refine q7 rfl ?_ | refine x6 ?_ | (refine x4 fun K hK => ?_) | (refine j4 (by kernel_rfl) (by kernel_rfl) fun K hK => ?_) | ((first | refine q6 ?_ | refine z6 ?_ | ((first | refine z2 (hK _ ?_) | refine j5 (hK _ _ (x5 (by kernel_rfl)) ?_)); clear hK K)); (first | show AWP _ _ _ _ _ | ((try simp only [j7]); first | show loopQ _ _ _ _ _ _ | show cutQ _ _ _ _ | show AWP _ _ _ _ _))) | ((first | refine z7 [8, 10, 33] rfl ?_ | refine x7 [8, 10, 33] rfl ?_); simp (maxSteps := 2000000) (disch := omega) only [go_sem, seval, hd, cb, ruleD, portD]; (repeat (first | refine ⟨by omega, ?_⟩ | refine ⟨True.intro, ?_⟩)))))
        (refine walkS_cons _ (step_mcall [(1000, 33), (1001, 5)] rfl rfl rfl rfl rfl rfl (k1) rfl (z11 (by repeat (first | exact trivial | refine ⟨rfl, ?_⟩)) (by kernel_rfl))) ?_); simp (maxSteps := 2000000) (disch := omega) only [go_sem, seval, hd, cb, ruleD, portD]
        (repeat ((fail_if_success (show AWP _ _ (.region 9 _ _) _ _)); first | refine j0 ?_ | refine j6 rfl ?_ | refine q7 rfl ?_ | refine x6 ?_ | (refine x4 fun K hK => ?_) | (refine j4 (by kernel_rfl) (by kernel_rfl) fun K hK => ?_) | ((first | refine q6 ?_ | refine z6 ?_ | ((first | refine z2 (hK _ ?_) | refine j5 (hK _ _ (x5 (by kernel_rfl)) ?_)); clear hK K)); (first | show AWP _ _ _ _ _ | ((try simp only [j7]); first | show loopQ _ _ _ _ _ _ | show cutQ _ _ _ _ | show AWP _ _ _ _ _))) | ((first | refine z7 [8, 10, 33] rfl ?_ | refine x7 [8, 10, 33] rfl ?_); simp (maxSteps := 2000000) (disch := omega) only [go_sem, seval, hd, cb, ruleD, portD]; (repeat (first | refine ⟨by omega, ?_⟩ | refine ⟨True.intro, ?_⟩)))))
        refine run_out (l := y) rfl rfl rfl rfl ?_
        unfold wkAt runZ
        (repeat (first | refine j0 ?_ | refine j6 rfl ?_ | refine q7 rfl ?_ | refine x6 ?_ | (refine x4 fun K hK => ?_) | (refine j4 (by kernel_rfl) (by kernel_rfl) fun K hK => ?_) | ((first | refine q6 ?_ | refine z6 ?_ | ((first | refine z2 (hK _ ?_) | refine j5 (hK _ _ (x5 (by kernel_rfl)) ?_)); clear hK K)); (first | show AWP _ _ _ _ _ | ((try simp only [j7]); first | show loopQ _ _ _ _ _ _ | show cutQ _ _ _ _ | show AWP _ _ _ _ _))) | ((first | refine z7 [8, 10, 33] rfl ?_ | refine x7 [8, 10, 33] rfl ?_); simp (maxSteps := 2000000) (disch := omega) only [go_sem, seval, hd, cb, ruleD, portD]; (repeat (first | refine ⟨by omega, ?_⟩ | refine ⟨True.intro, ?_⟩)))))
        refine z8 ⟨_, ?_, rfl⟩; rw [Try.results36]; simp (disch := omega) only [ResVars, ResVar, ptrLoc, go_sem, seval, hd, cb, ruleD, portD]
  · have : i = 10800 := by omega
    have hR2 : R = ⟨4, 0, 0, hops⟩ := by rw [← hg, this, Nat.sub_self]; unfold goW; rfl
    subst hR2
    unfold runD
    subst this
    (repeat ((fail_if_success (show AWP _ _ (.region 11 _ _) _ _)); first | refine j0 ?_ | refine j6 rfl ?_ | refine q7 rfl ?_ | refine x6 ?_ | (refine x4 fun K hK => ?_) | (refine j4 (by kernel_rfl) (by kernel_rfl) fun K hK => ?_) | ((first | refine q6 ?_ | refine z6 ?_ | ((first | refine z2 (hK _ ?_) | refine j5 (hK _ _ (x5 (by kernel_rfl)) ?_)); clear hK K)); (first | show AWP _ _ _ _ _ | ((try simp only [j7]); first | show loopQ _ _ _ _ _ _ | show cutQ _ _ _ _ | show AWP _ _ _ _ _))) | ((first | refine z7 [8, 10, 33] rfl ?_ | refine x7 [8, 10, 33] rfl ?_); simp (maxSteps := 2000000) (disch := omega) only [go_sem, seval, hd, cb, ruleD, portD]; (repeat (first | refine ⟨by omega, ?_⟩ | refine ⟨True.intro, ?_⟩)))))
    refine run_out (l := hops) rfl rfl rfl rfl ?_
    unfold wkAt runZ
    (repeat (first | refine j0 ?_ | refine j6 rfl ?_ | refine q7 rfl ?_ | refine x6 ?_ | (refine x4 fun K hK => ?_) | (refine j4 (by kernel_rfl) (by kernel_rfl) fun K hK => ?_) | ((first | refine q6 ?_ | refine z6 ?_ | ((first | refine z2 (hK _ ?_) | refine j5 (hK _ _ (x5 (by kernel_rfl)) ?_)); clear hK K)); (first | show AWP _ _ _ _ _ | ((try simp only [j7]); first | show loopQ _ _ _ _ _ _ | show cutQ _ _ _ _ | show AWP _ _ _ _ _))) | ((first | refine z7 [8, 10, 33] rfl ?_ | refine x7 [8, 10, 33] rfl ?_); simp (maxSteps := 2000000) (disch := omega) only [go_sem, seval, hd, cb, ruleD, portD]; (repeat (first | refine ⟨by omega, ?_⟩ | refine ⟨True.intro, ?_⟩)))))
    refine z8 ⟨_, ?_, rfl⟩; rw [Try.results36]; simp (disch := omega) only [ResVars, ResVar, ptrLoc, go_sem, seval, hd, cb, ruleD, portD]
end Go.Proofs.Ytbiildleaelodaa
set_option linter.unusedSimpArgs false
set_option linter.unusedVariables false
namespace Go.Proofs.Ytbiildleaelodaa
open Go.Proofs.Ytbiildleaelodaa.AL
def hopSh : Sh := .pair (.int .i64) (.pair (.int .i64) (.pair (.int .i64) (.pair headSh .unit)))
def runSh : Sh := .pair (.int .i64) (.pair spotSh (.pair (.slice hopSh) .unit))
theorem is_hop {N : Nat} {ds : List Dat} (h : Is N hopSh ds) : ∃ x : Hop, ds = hopD x := by
  obtain ⟨_, _, rfl, ⟨a, rfl, wa⟩, _, _, rfl, ⟨b, rfl, wb⟩, _, _, rfl, ⟨c, rfl, wc⟩, _, _, rfl, hx, rfl⟩ := h
  obtain ⟨x, rfl⟩ := is_hd hx
  exact ⟨⟨a, b, c, x⟩, rfl⟩
theorem is_run {N : Nat} {ds : List Dat} (h : Is N runSh ds) : ∃ r : RunR, ds = runD r ∧ r.hops.length ≤ N := by
  obtain ⟨_, _, rfl, ⟨a, rfl, wa⟩, _, _, rfl, hs, _, _, rfl, hl, rfl⟩ := h
  obtain ⟨s, rfl, -, -⟩ := is_spot hs
  obtain ⟨l, rfl, h2, -⟩ := is_list (Q := fun _ => True) hopD hop0 hopSh (by
    unfold hopD hop0
    simp only [hi_zero, lo_zero]; rfl) (fun ds hd => by obtain ⟨p, h1⟩ := is_hop hd; exact ⟨p, h1, trivial⟩) hl
  exact ⟨⟨a, s.sw, s.po, l⟩, rfl, h2⟩
end Go.Proofs.Ytbiildleaelodaa
set_option linter.unusedSimpArgs false
set_option linter.unusedVariables false
namespace Go.Proofs.Ytbiildleaelodaa
open Go.Proofs.Ytbiildleaelodaa.AL
end Go.Proofs.Ytbiildleaelodaa
set_option linter.unusedSimpArgs false
set_option linter.unusedVariables false
namespace Go.Proofs.Ytbiildleaelodaa
open Go.Proofs.Ytbiildleaelodaa.AL
end Go.Proofs.Ytbiildleaelodaa
set_option linter.unusedSimpArgs false
set_option linter.unusedVariables false
namespace Go.Proofs.Ytbiildleaelodaa
open Go.Proofs.Ytbiildleaelodaa.AL
def ixHI (l : List Hop) (g : FuncId) (caps : List PV) (p : Hop → Bool) (R : Int) (s : {i : Nat // i ≤ l.length ∧ idxF p (l.drop i) i = R}) : ASt :=
  ⟨[(8, .p (.d (.v (.int .i64 (s.val : Int))))), (7, .p (.d (.v (.int .i64 (l.length : Int))))), (1, .p (.fn (.func g) [] caps)), (0, .p (.d (.sl 5 l.length (rowH l))))], []⟩
theorem IndexH_c (g : FuncId) (caps : List PV) (p : Hop → Bool) (l : List Hop) (hl : l.length ≤ 140737488355328) (hp : ∀ k ∈ l, ACalls Try.prog g (.agg (hopD k) :: caps) (· = [.d (.v (.bool (p k)))])) :
    ACalls Try.prog 83 [.d (.sl 5 l.length (rowH l)), .fn (.func g) [] caps] (· = [.d (.v (.int .i64 (idxF p l 0)))]) := by
  obtain ⟨R, hR⟩ : ∃ R, idxF p l 0 = R := ⟨_, rfl⟩
  rw [hR]
  refine z10 Try.func83 rfl (by decide +kernel) (by rw [Try.ntmps83]; simp) ?_; rw [Try.ntmps83]; simp only [frOf]
  (repeat (first | refine j0 ?_ | refine j6 rfl ?_ | refine q7 rfl ?_ | refine x6 ?_ | (refine x4 fun K hK => ?_) | (refine j4 (by kernel_rfl) (by kernel_rfl) fun K hK => ?_) | ((first | refine q6 ?_ | refine z6 ?_ | ((first | refine z2 (hK _ ?_) | refine j5 (hK _ _ (x5 (by kernel_rfl)) ?_)); clear hK K)); (first | show AWP _ _ _ _ _ | ((try simp only [j7]); first | show loopQ _ _ _ _ _ _ | show cutQ _ _ _ _ | show AWP _ _ _ _ _))) | ((first | refine z7 [] rfl ?_ | refine x7 [] rfl ?_); simp (maxSteps := 2000000) (disch := omega) only [go_sem, seval, hd, hopD]; (repeat (first | refine ⟨by omega, ?_⟩ | refine ⟨True.intro, ?_⟩)))))
  refine awp_loop (ixHI l g caps p R) (fun s => l.length - s.val) ⟨0, by omega, by rw [List.drop_zero]; exact hR⟩ ?_ (fun s => ?_)
  · unfold ixHI
    refine Weak.list ?_ ?_; (all_goals simp (disch := omega) only [AllF, AllL, j8, q9, x8, exists_eq_left', Option.some.injEq, go_sem, seval, hd, hopD]); (all_goals (repeat' (with_reducible apply And.intro))); (all_goals try (first | exact q8 rfl | (refine x9 ?_; omega) | (refine q8 ?_; simp; done)))
  obtain ⟨i, hi, he⟩ := s
  unfold ixHI
  by_cases hn : i < l.length
  · rw [drop_getD l i hop0 hn] at he
    have r1 := rowH_at l i
    have hk := hp _ (getD_in hn hop0)
    generalize l.getD i hop0 = K at he r1 hk
    unfold idxF at he
    cases hb : p K
    all_goals
      rw [hb] at he hk
      simp only [Bool.false_eq_true, if_false, if_true] at he
      (repeat (first | refine j0 ?_ | refine j6 rfl ?_ | refine q7 rfl ?_ | refine x6 ?_ | (refine x4 fun K hK => ?_) | (refine j4 (by kernel_rfl) (by kernel_rfl) fun K hK => ?_) | ((first | refine q6 ?_ | refine z6 ?_ | ((first | refine z2 (hK _ ?_) | refine j5 (hK _ _ (x5 (by kernel_rfl)) ?_)); clear hK K)); (first | show AWP _ _ _ _ _ | ((try simp only [j7]); first | show loopQ _ _ _ _ _ _ | show cutQ _ _ _ _ | show AWP _ _ _ _ _))) | ((first | refine j9 rfl rfl rfl ?_ | refine q10 rfl rfl rfl ?_); simp (maxSteps := 2000000) (disch := omega) only [go_sem, seval, hd, hopD, r1]; (first | refine ⟨_, hk, ?_⟩)) | ((first | refine z7 [] rfl ?_ | refine x7 [] rfl ?_); simp (maxSteps := 2000000) (disch := omega) only [go_sem, seval, hd, hopD, r1]; (repeat (first | refine ⟨by omega, ?_⟩ | refine ⟨True.intro, ?_⟩)))))
    · refine ⟨⟨i + 1, by omega, he⟩, by simp only []; omega, ?_⟩
      refine Weak.list ?_ ?_; (all_goals simp (disch := omega) only [AllF, AllL, j8, q9, x8, exists_eq_left', Option.some.injEq, go_sem, seval, hd, hopD, r1]); (all_goals (repeat' (with_reducible apply And.intro))); (all_goals try (first | exact q8 rfl | (refine x9 ?_; omega) | (refine q8 ?_; simp; done)))
    · refine z8 ⟨_, ?_, rfl⟩; rw [Try.results83]; simp (disch := omega) only [ResVars, ResVar, ptrLoc, go_sem, seval, hd, hopD, r1]
      rw [he]
  · have : i = l.length := by omega
    subst this
    rw [List.drop_length] at he
    unfold idxF at he
    (repeat (first | refine j0 ?_ | refine j6 rfl ?_ | refine q7 rfl ?_ | refine x6 ?_ | (refine x4 fun K hK => ?_) | (refine j4 (by kernel_rfl) (by kernel_rfl) fun K hK => ?_) | ((first | refine q6 ?_ | refine z6 ?_ | ((first | refine z2 (hK _ ?_) | refine j5 (hK _ _ (x5 (by kernel_rfl)) ?_)); clear hK K)); (first | show AWP _ _ _ _ _ | ((try simp only [j7]); first | show loopQ _ _ _ _ _ _ | show cutQ _ _ _ _ | show AWP _ _ _ _ _))) | ((first | refine z7 [] rfl ?_ | refine x7 [] rfl ?_); simp (maxSteps := 2000000) (disch := omega) only [go_sem, seval, hd, hopD]; (repeat (first | refine ⟨by omega, ?_⟩ | refine ⟨True.intro, ?_⟩)))))
    refine z8 ⟨_, ?_, rfl⟩; rw [Try.results83]; simp (disch := omega) only [ResVars, ResVar, ptrLoc, go_sem, seval, hd, hopD]
    rw [he]
theorem ContainsH_c (g : FuncId) (caps : List PV) (p : Hop → Bool) (l : List Hop) (hl : l.length ≤ 140737488355328) (hp : ∀ k ∈ l, ACalls Try.prog g (.agg (hopD k) :: caps) (· = [.d (.v (.bool (p k)))])) :
    ACalls Try.prog 60 [.d (.sl 5 l.length (rowH l)), .fn (.func g) [] caps] (· = [.d (.v (.bool (l.any p)))]) := by
  have ix := IndexH_c g caps p l hl hp
  have ia := idxF_any p l 0
  generalize idxF p l 0 = R at ix ia
  refine z10 Try.func60 rfl (by decide +kernel) (by rw [Try.ntmps60]; simp) ?_; rw [Try.ntmps60]; simp only [frOf]
  (repeat (first | refine j0 ?_ | refine j6 rfl ?_ | refine q7 rfl ?_ | refine x6 ?_ | (refine x4 fun K hK => ?_) | (refine j4 (by kernel_rfl) (by kernel_rfl) fun K hK => ?_) | ((first | refine q6 ?_ | refine z6 ?_ | ((first | refine z2 (hK _ ?_) | refine j5 (hK _ _ (x5 (by kernel_rfl)) ?_)); clear hK K)); (first | show AWP _ _ _ _ _ | ((try simp only [j7]); first | show loopQ _ _ _ _ _ _ | show cutQ _ _ _ _ | show AWP _ _ _ _ _))) | ((first | refine j9 rfl rfl rfl ?_ | refine q10 rfl rfl rfl ?_); simp (maxSteps := 2000000) (disch := omega) only [go_sem, seval, hd, hopD]; (first | refine ⟨_, ix, ?_⟩)) | ((first | refine z7 [] rfl ?_ | refine x7 [] rfl ?_); simp (maxSteps := 2000000) (disch := omega) only [go_sem, seval, hd, hopD]; (repeat (first | refine ⟨by omega, ?_⟩ | refine ⟨True.intro, ?_⟩)))))
  refine z8 ⟨_, ?_, rfl⟩; rw [Try.results60]; simp (disch := omega) only [ResVars, ResVar, ptrLoc, go_sem, seval, hd, hopD]
  rw [ia]
end Go.Proofs.Ytbiildleaelodaa
set_option linter.unusedSimpArgs false
set_option linter.unusedVariables false
namespace Go.Proofs.Ytbiildleaelodaa
open Go.Proofs.Ytbiildleaelodaa.AL
end Go.Proofs.Ytbiildleaelodaa
set_option linter.unusedSimpArgs false
set_option linter.unusedVariables false
namespace Go.Proofs.Ytbiildleaelodaa
open Go Go.Proofs.Ytbiildleaelodaa.AL
def DLe (x y : Dat) : Prop := ∀ (w : World) (g : Nat → Nat) (v : Value), RelD w g v x → RelD w g v y
inductive DLes : List Dat → List Dat → Prop
  | nil : DLes [] []
  | cons {x y : Dat} {xs ys : List Dat} (h : DLe x y) (t : DLes xs ys) : DLes (x :: xs) (y :: ys)
theorem dle_refl (x : Dat) : DLe x x := fun _ _ _ h => h
theorem DLes.refl : ∀ xs : List Dat, DLes xs xs
  | [] => .nil
  | x :: xs => .cons (dle_refl x) (DLes.refl xs)
theorem DLes.of_eq {xs ys : List Dat} (h : xs = ys) : DLes xs ys := h ▸ DLes.refl xs
theorem DLes.length {xs ys : List Dat} (h : DLes xs ys) : xs.length = ys.length := by
  induction h with
  | nil => rfl
  | cons _ _ ih => simp [ih]
theorem DLes.at {xs ys : List Dat} (h : DLes xs ys) : ∀ {j : Nat} {y : Dat}, ys[j]? = some y → ∃ x, xs[j]? = some x ∧ DLe x y := by
  induction h with
  | nil => intro j y h; simp at h
  | cons h t ih =>
    intro j y hy
    cases j with
    | zero => simp at hy; subst hy; exact ⟨_, by simp, h⟩
    | succ j => simp at hy; obtain ⟨x, h1, h2⟩ := ih hy; exact ⟨x, by simpa using h1, h2⟩
theorem dle_sl {sz n n' : Nat} {f f' : Nat → List Dat} (hn : n = n') (hf : ∀ i, i < n → DLes (f i) (f' i)) : DLe (.sl sz n f) (.sl sz n' f') := by
  subst hn
  intro w g v r
  cases r with
  | sl0 a c sz f => exact .sl0 _ _ _ _
  | sl b off n c sz f u h1 h2 h3 h4 h5 =>
    refine .sl b off n c sz f' u h1 (fun i hi => by rw [← (hf i hi).length]; exact h2 i hi) h3 h4 (fun i j y hi hy => ?_)
    obtain ⟨x, k1, k2⟩ := (hf i hi).at hy
    exact k2 _ _ _ (h5 i j x hi k1)
theorem dle_emp {a : Option Addr} {c sz : Nat} {f : Nat → List Dat} : DLe (.v (.slice a 0 c)) (.sl sz 0 f) := by
  intro w g v r
  cases r
  exact .sl0 _ _ _ _
theorem ple_agg {xs ys : List Dat} (h : DLes xs ys) : PLe (.agg xs) (.agg ys) := by
  intro w g v r
  cases r with
  | agg vs _ h1 h2 =>
    refine .agg vs ys (by rw [h1, h.length]) (fun j v y hv hy => ?_)
    obtain ⟨x, k1, k2⟩ := h.at hy
    exact k2 _ _ _ (h2 j v x hv k1)
theorem acalls_agg {P : Program} {f : FuncId} {xs : List PV} {ds ds' : List Dat} (h : DLes ds ds') (c : ACalls P f xs (· = [.agg ds])) : ACalls P f xs (· = [.agg ds']) := by
  refine acalls_iff.2 fun w g vs hz hr => ?_
  have := acalls_iff.1 c w g vs hz hr
  unfold CallRes at *
  split at this
  · refine this.mono fun e w' ⟨v, he, g', rs, h1, h2, h3⟩ => ?_
    subst h2
    exact ⟨v, he, g', _, h1, rfl, ple_agg h _ _ _ h3⟩
  · obtain ⟨g', rs, h1, h2, h3⟩ := this
    subst h2
    exact ⟨g', _, h1, rfl, ple_agg h _ _ _ h3⟩
  · exact this.elim
end Go.Proofs.Ytbiildleaelodaa
set_option linter.unusedSimpArgs false
set_option linter.unusedVariables false
namespace Go.Proofs.Ytbiildleaelodaa
open Go.Proofs.Ytbiildleaelodaa.AL
def passW (l : List Hop) (n : Int) : Bool := l.any fun x => x.sw == n
theorem passed1_c (x : Hop) (n : Int) : ACalls Try.prog 61 [.agg (hopD x), .d (.bx [.v (.int .i64 n)])] (· = [.d (.v (.bool (x.sw == n)))]) := by
  generalize hq : (x.sw == n) = q
  refine z10 Try.func61 rfl (by decide +kernel) (by rw [Try.ntmps61]; simp) ?_; rw [Try.ntmps61]; simp only [frOf]
  (repeat (first | refine j0 ?_ | refine j6 rfl ?_ | refine q7 rfl ?_ | refine x6 ?_ | (refine x4 fun K hK => ?_) | (refine j4 (by kernel_rfl) (by kernel_rfl) fun K hK => ?_) | ((first | refine q6 ?_ | refine z6 ?_ | ((first | refine z2 (hK _ ?_) | refine j5 (hK _ _ (x5 (by kernel_rfl)) ?_)); clear hK K)); (first | show AWP _ _ _ _ _ | ((try simp only [j7]); first | show loopQ _ _ _ _ _ _ | show cutQ _ _ _ _ | show AWP _ _ _ _ _))) | ((first | refine z7 [] rfl ?_ | refine x7 [] rfl ?_); simp (maxSteps := 2000000) (disch := omega) only [go_sem, seval, hd, hopD, runD, hq]; (repeat (first | refine ⟨by omega, ?_⟩ | refine ⟨True.intro, ?_⟩)))))
  refine z8 ⟨_, ?_, rfl⟩; rw [Try.results61]; simp (disch := omega) only [ResVars, ResVar, ptrLoc, go_sem, seval, hd, hopD, runD, hq]
theorem Passed_c (en an ap : Int) (l : List Hop) (n : Int) (hl : l.length ≤ 140737488355328) : ACalls Try.prog 41 [.agg [.v (.int .i64 en), .v (.int .i64 an), .v (.int .i64 ap), .sl 5 l.length (rowH l)], .d (.v (.int .i64 n))] (· = [.d (.v (.bool (passW l n)))]) := by
  have cf := ContainsH_c 61 [.d (.bx [.v (.int .i64 n)])] (fun x => x.sw == n) l hl (fun k _ => passed1_c k n)
  unfold passW
  generalize l.any (fun x => x.sw == n) = b at cf
  refine z10 Try.func41 rfl (by decide +kernel) (by rw [Try.ntmps41]; simp) ?_; rw [Try.ntmps41]; simp only [frOf]
  (repeat (first | refine j0 ?_ | refine j6 rfl ?_ | refine q7 rfl ?_ | refine x6 ?_ | (refine x4 fun K hK => ?_) | (refine j4 (by kernel_rfl) (by kernel_rfl) fun K hK => ?_) | ((first | refine q6 ?_ | refine z6 ?_ | ((first | refine z2 (hK _ ?_) | refine j5 (hK _ _ (x5 (by kernel_rfl)) ?_)); clear hK K)); (first | show AWP _ _ _ _ _ | ((try simp only [j7]); first | show loopQ _ _ _ _ _ _ | show cutQ _ _ _ _ | show AWP _ _ _ _ _))) | ((first | refine j9 rfl rfl rfl ?_ | refine q10 rfl rfl rfl ?_); simp (maxSteps := 2000000) (disch := omega) only [go_sem, seval, hd, hopD, runD]; (first | refine ⟨_, cf, ?_⟩)) | ((first | refine z7 [] rfl ?_ | refine x7 [] rfl ?_); simp (maxSteps := 2000000) (disch := omega) only [go_sem, seval, hd, hopD, runD]; (repeat (first | refine ⟨by omega, ?_⟩ | refine ⟨True.intro, ?_⟩)))))
  refine z8 ⟨_, ?_, rfl⟩; rw [Try.results41]; simp (disch := omega) only [ResVars, ResVar, ptrLoc, go_sem, seval, hd, hopD, runD]
theorem stamp_ok {c : Config} {s : Spot} {v : Int} (he : stampE c s v = 0) : soundC c = 0 ∧ 0 ≤ v ∧ v ≤ 255 ∧ s ∈ edgesT c.tp := by
  unfold stampE at he
  split at he
  · rename_i h; exact absurd he h
  · rename_i h1
    split at he
    · cases he
    · split at he
      · cases he
      · rename_i h2 h3
        refine ⟨by omega, by omega, by omega, ?_⟩
        unfold edgesHas at h3
        simpa using h3
theorem edge_in {c : Config} {s : Spot} (hs : soundC c = 0) (hm : s ∈ edgesT c.tp) : ∃ n : Nat, s.sw = n ∧ InW c n 0 := by
  obtain ⟨i, j, rfl, g1, -, -⟩ := edgesT_at hm
  obtain ⟨p1, p2, p3⟩ := sound_parts hs
  exact ⟨i, rfl, by omega, g1, (soundTab_parts (p3 i (by omega))).1⟩
def runOf (c : Config) (s : Spot) (h : BitVec 128) (v : Int) : RunR := goW c 10800 s.sw.toNat 0 (setH h (stampV (edgeT c.tp s) v)) []
theorem Run_ok (c : Config) (s : Spot) (h : BitVec 128) (v : Int) (hc : c.small) (he : stampE c s v = 0) :
    ACalls Try.prog 36 [.agg (configD c), .agg (spotD s), .agg (hd h), .d (.v (.int .i64 v))] (· = [.agg (runD (runOf c s h v)), .d (.v (.int .i64 0))]) := by
  obtain ⟨h1, h2, h3, h4⟩ := stamp_ok he
  obtain ⟨n, hn, hw⟩ := edge_in h1 h4
  refine Run_good c s h v _ hc (by omega) he h1 n hn hw ?_
  unfold runOf
  rw [show stampC c s v = stampV (edgeT c.tp s) v from if_pos he, hn, Int.toNat_natCast]
def ringK : Config := ⟨[[⟨1, 0, 0, 0, 0⟩, ⟨2, 0, 1, 0, 1⟩], [⟨2, 0, 0, 1, 1⟩, ⟨1, 0, 0, 0, 0⟩]], ⟨1, [], []⟩, [[[⟨0, ⟨1, 1⟩, 3, 1, 0, ⟨0, 0⟩⟩]], [[⟨0, ⟨1, 1⟩, 2, 1, 0, ⟨0, 0⟩⟩]]]⟩
def iI (n : Int) : Dat := .v (.int .i64 n)
def iU (n : Int) : Dat := .v (.int .u64 n)
def pRaw (a b c d e : Int) : List Dat := [iI a, iI b, iI c, iI d, iI e]
def rRaw (k : Int) : List Dat := [iI 0, iU 0, iU 1, iU 0, iU 1, iI k, iI 1, iI 0, iU 0, iU 0, iU 0, iU 0]
def tRaw (k : Int) : List Dat := [.sl 1 1 fun i => [[.sl 12 1 fun i => [rRaw k].getD i []]].getD i []]
def ringRaw : List Dat := [.sl 1 2 fun i => [[.sl 5 2 fun i => [pRaw 1 0 0 0 0, pRaw 2 0 1 0 1].getD i []], [.sl 5 2 fun i => [pRaw 2 0 0 1 1, pRaw 1 0 0 0 0].getD i []]].getD i [], iI 1, .v (.slice none 0 0), .v (.slice none 0 0),
  .sl 1 2 fun i => [tRaw 3, tRaw 2].getD i []]
theorem two_lt {i : Nat} (h : i < 2) : i = 0 ∨ i = 1 := by omega
theorem rRaw_eq (k : Int) (i : Nat) (h : i < 1) : [rRaw k].getD i [] = rowR [⟨0, ⟨1, 1⟩, k, 1, 0, ⟨0, 0⟩⟩] i := by
  obtain rfl : i = 0 := by omega
  show _ = ruleD _
  unfold ruleD
  simp only [List.getD_cons_zero, hi_zero, lo_zero, show hi 1 = 0 from by decide, show lo 1 = 1 from by decide]
  rfl
theorem tRaw_le (k : Int) : DLes (tRaw k) [.sl 1 1 (rowRR [[⟨0, ⟨1, 1⟩, k, 1, 0, ⟨0, 0⟩⟩]])] := by
  refine .cons (dle_sl rfl fun i h => ?_) .nil
  obtain rfl : i = 0 := by omega
  exact .cons (dle_sl rfl fun i h => .of_eq (rRaw_eq k i h)) .nil
theorem ringRaw_le : DLes ringRaw (configD ringK) := by
  refine .cons (dle_sl rfl fun i h => ?_) (.cons (dle_refl _) (.cons dle_emp (.cons dle_emp (.cons (dle_sl rfl fun i h => ?_) .nil))))
  · rcases two_lt h with rfl | rfl
    · refine .cons (dle_sl rfl fun i h => ?_) .nil
      rcases two_lt h with rfl | rfl <;> exact .of_eq rfl
    · refine .cons (dle_sl rfl fun i h => ?_) .nil
      rcases two_lt h with rfl | rfl <;> exact .of_eq rfl
  · rcases two_lt h with rfl | rfl
    · exact tRaw_le 3
    · exact tRaw_le 2
set_option maxRecDepth 100000 in
set_option maxHeartbeats 4000000 in
theorem ring_c : ACalls Try.prog 53 [] (· = [.agg (configD ringK)]) := by
  refine acalls_agg ringRaw_le ?_
  unfold ringRaw tRaw rRaw pRaw iI iU
  refine z10 Try.func53 rfl (by decide +kernel) (by rw [Try.ntmps53]; simp) ?_; rw [Try.ntmps53]; simp only [frOf]
  (repeat (first | refine j0 ?_ | refine j6 rfl ?_ | refine q7 rfl ?_ | refine x6 ?_ | (refine x4 fun K hK => ?_) | (refine j4 (by kernel_rfl) (by kernel_rfl) fun K hK => ?_) | ((first | refine q6 ?_ | refine z6 ?_ | ((first | refine z2 (hK _ ?_) | refine j5 (hK _ _ (x5 (by kernel_rfl)) ?_)); clear hK K)); (first | show AWP _ _ _ _ _ | ((try simp only [j7]); first | show loopQ _ _ _ _ _ _ | show cutQ _ _ _ _ | show AWP _ _ _ _ _))) | ((first | refine z7 [0, 1, 2] rfl ?_ | refine x7 [0, 1, 2] rfl ?_); simp (maxSteps := 2000000) (disch := omega) only [go_sem, seval, hd, hopD, runD]; (repeat (first | refine ⟨by omega, ?_⟩ | refine ⟨True.intro, ?_⟩)))))
  refine z8 ⟨_, ?_, rfl⟩; rw [Try.results53]; simp (disch := omega) only [ResVars, ResVar, ptrLoc, go_sem, seval, hd, hopD, runD]
theorem ringK_small : ringK.small := by
  refine ⟨⟨by decide, ?_⟩, ⟨by decide, by decide⟩, by decide, ?_⟩
  · intro l h
    simp only [ringK, List.mem_cons, List.not_mem_nil, or_false] at h
    rcases h with rfl | rfl <;> decide
  · intro t h
    simp only [ringK, List.mem_cons, List.not_mem_nil, or_false] at h
    rcases h with rfl | rfl
    all_goals
      refine ⟨by decide, fun l h => ?_⟩
      simp only [List.mem_singleton] at h
      subst h; decide
end Go.Proofs.Ytbiildleaelodaa
set_option linter.unusedSimpArgs false
set_option linter.unusedVariables false
namespace Go.Proofs.Ytbiildleaelodaa
open Go.Proofs.Ytbiildleaelodaa.AL
set_option maxRecDepth 100000 in
set_option maxHeartbeats 4000000 in
theorem awake9_c : ACalls Try.prog 35 [] (· = [.d (.v (.bool true))]) := by
  have k0 := ring_c
  have he : stampE ringK ⟨0, 0⟩ 0 = 0 := by decide +kernel
  have k1 := Run_ok ringK ⟨0, 0⟩ 1#128 0 ringK_small he
  have k2 := Run_ok ringK ⟨0, 0⟩ 0#128 0 ringK_small he
  have a1 : (runOf ringK ⟨0, 0⟩ 1#128 0).en = 2 := by decide +kernel
  have a2 : (runOf ringK ⟨0, 0⟩ 1#128 0).an = 1 := by decide +kernel
  have a3 : (runOf ringK ⟨0, 0⟩ 1#128 0).ap = 1 := by decide +kernel
  have a4 : (runOf ringK ⟨0, 0⟩ 1#128 0).hops.length = 2 := by decide +kernel
  have a5 : passW (runOf ringK ⟨0, 0⟩ 1#128 0).hops 1 = true := by decide +kernel
  have a6 : passW (runOf ringK ⟨0, 0⟩ 1#128 0).hops 2 = false := by decide +kernel
  have b1 : (runOf ringK ⟨0, 0⟩ 0#128 0).en = 3 := by decide +kernel
  generalize runOf ringK ⟨0, 0⟩ 1#128 0 = R at *
  generalize runOf ringK ⟨0, 0⟩ 0#128 0 = R2 at *
  have k3 := Passed_c R.en R.an R.ap R.hops 1 (by omega)
  have k4 := Passed_c R.en R.an R.ap R.hops 2 (by omega)
  rw [a5, a1, a2, a3, a4] at k3
  rw [a6, a1, a2, a3, a4] at k4
  unfold runD at k1 k2
  rw [a1, a2, a3, a4] at k1
  rw [b1] at k2
  generalize rowH R.hops = rw1 at *
  generalize rowH R2.hops = rw2 at *
  generalize R2.hops.length = n2 at *
  rw [show hd 1#128 = [.v (.int .u64 0), .v (.int .u64 1)] from by unfold hd; rw [show hi 1#128 = 0 from by decide, show lo 1#128 = 1 from by decide]] at k1
  rw [show hd 0#128 = [.v (.int .u64 0), .v (.int .u64 0)] from by unfold hd; rw [hi0, lo0]] at k2
  have zz : eqI [1, 1] [1, 1] = true := rfl
  clear he
  generalize ringK = K at *
  unfold configD spotD at *
  refine z10 Try.func35 rfl (by decide +kernel) (by rw [Try.ntmps35]; simp) ?_; rw [Try.ntmps35]; simp only [frOf]
  (repeat (first | refine j0 ?_ | refine j6 rfl ?_ | refine q7 rfl ?_ | refine x6 ?_ | (refine x4 fun K hK => ?_) | (refine j4 (by kernel_rfl) (by kernel_rfl) fun K hK => ?_) | ((first | refine q6 ?_ | refine z6 ?_ | ((first | refine z2 (hK _ ?_) | refine j5 (hK _ _ (x5 (by kernel_rfl)) ?_)); clear hK K)); (first | show AWP _ _ _ _ _ | ((try simp only [j7]); first | show loopQ _ _ _ _ _ _ | show cutQ _ _ _ _ | show AWP _ _ _ _ _))) | ((first | refine j9 rfl rfl rfl ?_ | refine q10 rfl rfl rfl ?_); simp (maxSteps := 2000000) (disch := omega) only [go_sem, seval, hd, cb, ruleD, eqty80, eqty25, zz]; (first | refine ⟨_, k0, ?_⟩ | refine ⟨_, k1, ?_⟩ | refine ⟨_, k2, ?_⟩ | refine ⟨_, k3, ?_⟩ | refine ⟨_, k4, ?_⟩)) | ((first | refine z7 [1, 2, 4] rfl ?_ | refine x7 [1, 2, 4] rfl ?_); simp (maxSteps := 2000000) (disch := omega) only [go_sem, seval, hd, cb, ruleD, eqty80, eqty25, zz]; (repeat (first | refine ⟨by omega, ?_⟩ | refine ⟨True.intro, ?_⟩)))))
  refine z8 ⟨_, ?_, rfl⟩; rw [Try.results35]; simp (disch := omega) only [ResVars, ResVar, ptrLoc, go_sem, seval, hd, cb, ruleD, eqty80, eqty25, zz]
end Go.Proofs.Ytbiildleaelodaa
set_option linter.unusedSimpArgs false
set_option linter.unusedVariables false
namespace Go.Proofs.Ytbiildleaelodaa
open Go.Proofs.Ytbiildleaelodaa.AL
def passI (en an ap : Int) (l : List Hop) (n : Int) (s : {i : Nat // i ≤ l.length}) : ASt :=
  ⟨[(6, .p (.d (.v (.int .i64 (s.val : Int))))), (5, .p (.d (.v (.bool (passW (l.take s.val) n))))), (2, .p (.d (.bx [.v (.int .i64 en), .v (.int .i64 an), .v (.int .i64 ap), .sl 5 l.length (rowH l)]))), (1, .p (.d (.v (.int .i64 n))))], []⟩
theorem passW_next (l : List Hop) (n : Int) (i : Nat) (h : i < l.length) : passW (l.take (i + 1)) n = (passW (l.take i) n || (l.getD i hop0).sw == n) := by
  unfold passW
  rw [List.take_add_one, List.any_append]
  congr 1
  rw [List.getD_eq_getElem?_getD, List.getElem?_eq_getElem h]
  simp
set_option maxRecDepth 100000 in
theorem WalkPassed_c (en an ap : Int) (l : List Hop) (n : Int) (hl : l.length ≤ 140737488355328) : ACalls Try.prog 12 [.agg [.v (.int .i64 en), .v (.int .i64 an), .v (.int .i64 ap), .sl 5 l.length (rowH l)], .d (.v (.int .i64 n))] (· = [.d (.v (.bool true))]) := by
  have k0 := awake9_c
  have k1 := Passed_c en an ap l n hl
  refine z10 Try.func12 rfl (by decide +kernel) (by rw [Try.ntmps12]; simp) ?_; rw [Try.ntmps12]; simp only [frOf]
  (repeat (first | refine j0 ?_ | refine j6 rfl ?_ | refine q7 rfl ?_ | refine x6 ?_ | (refine x4 fun K hK => ?_) | (refine j4 (by kernel_rfl) (by kernel_rfl) fun K hK => ?_) | ((first | refine q6 ?_ | refine z6 ?_ | ((first | refine z2 (hK _ ?_) | refine j5 (hK _ _ (x5 (by kernel_rfl)) ?_)); clear hK K)); (first | show AWP _ _ _ _ _ | ((try simp only [j7]); first | show loopQ _ _ _ _ _ _ | show cutQ _ _ _ _ | show AWP _ _ _ _ _))) | ((first | refine z7 [] rfl ?_ | refine x7 [] rfl ?_); simp (maxSteps := 2000000) (disch := omega) only [go_sem, seval, hd, cb, ruleD, eqty80, eqty25]; (repeat (first | refine ⟨by omega, ?_⟩ | refine ⟨True.intro, ?_⟩)))))
  refine awp_loop (passI en an ap l n) (fun s => l.length - s.val) ⟨0, by omega⟩ ?_ (fun s => ?_)
  · unfold passI
    refine Weak.list ?_ ?_; (all_goals simp (disch := omega) only [AllF, AllL, j8, q9, x8, exists_eq_left', Option.some.injEq, go_sem, seval, hd, cb, ruleD, eqty80, eqty25]); (all_goals (repeat' (with_reducible apply And.intro))); (all_goals try (first | exact q8 rfl | (refine x9 ?_; omega) | (refine q8 ?_; simp; done)))
  obtain ⟨i, hi⟩ := s
  unfold passI
  by_cases h : i < l.length
  · have hn := passW_next l n i h
    have r1 := rowH_at l i
    generalize l.getD i hop0 = x at *
    simp only []
    generalize hq : (x.sw == n) = q at hn
    cases hb : passW (l.take i) n
    all_goals
      rw [hb] at hn
      simp only [Bool.true_or, Bool.false_or] at hn
      (repeat (first | refine j0 ?_ | refine j6 rfl ?_ | refine q7 rfl ?_ | refine x6 ?_ | (refine x4 fun K hK => ?_) | (refine j4 (by kernel_rfl) (by kernel_rfl) fun K hK => ?_) | ((first | refine q6 ?_ | refine z6 ?_ | ((first | refine z2 (hK _ ?_) | refine j5 (hK _ _ (x5 (by kernel_rfl)) ?_)); clear hK K)); (first | show AWP _ _ _ _ _ | ((try simp only [j7]); first | show loopQ _ _ _ _ _ _ | show cutQ _ _ _ _ | show AWP _ _ _ _ _))) | ((first | refine z7 [] rfl ?_ | refine x7 [] rfl ?_); simp (maxSteps := 2000000) (disch := omega) only [go_sem, seval, hd, cb, ruleD, eqty80, eqty25, r1, hq, hopD]; (repeat (first | refine ⟨by omega, ?_⟩ | refine ⟨True.intro, ?_⟩)))))
      refine ⟨⟨i + 1, by omega⟩, by simp only []; omega, ?_⟩
      simp only [hn]
      refine Weak.list ?_ ?_; (all_goals simp (disch := omega) only [AllF, AllL, j8, q9, x8, exists_eq_left', Option.some.injEq, go_sem, seval, hd, cb, ruleD, eqty80, eqty25, r1, hq, hopD]); (all_goals (repeat' (with_reducible apply And.intro))); (all_goals try (first | exact q8 rfl | (refine x9 ?_; omega) | (refine q8 ?_; simp; done)))
  · have : i = l.length := by omega
    subst this
    simp only [List.take_length]
    have q1 : (passW l n == passW l n) = true := by simp
    generalize passW l n = b at *
    (repeat (first | refine j0 ?_ | refine j6 rfl ?_ | refine q7 rfl ?_ | refine x6 ?_ | (refine x4 fun K hK => ?_) | (refine j4 (by kernel_rfl) (by kernel_rfl) fun K hK => ?_) | ((first | refine q6 ?_ | refine z6 ?_ | ((first | refine z2 (hK _ ?_) | refine j5 (hK _ _ (x5 (by kernel_rfl)) ?_)); clear hK K)); (first | show AWP _ _ _ _ _ | ((try simp only [j7]); first | show loopQ _ _ _ _ _ _ | show cutQ _ _ _ _ | show AWP _ _ _ _ _))) | ((first | refine j9 rfl rfl rfl ?_ | refine q10 rfl rfl rfl ?_); simp (maxSteps := 2000000) (disch := omega) only [go_sem, seval, hd, cb, ruleD, eqty80, eqty25, q1]; (first | refine ⟨_, k0, ?_⟩ | refine ⟨_, k1, ?_⟩)) | ((first | refine z7 [] rfl ?_ | refine x7 [] rfl ?_); simp (maxSteps := 2000000) (disch := omega) only [go_sem, seval, hd, cb, ruleD, eqty80, eqty25, q1]; (repeat (first | refine ⟨by omega, ?_⟩ | refine ⟨True.intro, ?_⟩)))))
    refine z8 ⟨_, ?_, rfl⟩; rw [Try.results12]; simp (disch := omega) only [ResVars, ResVar, ptrLoc, go_sem, seval, hd, cb, ruleD, eqty80, eqty25, q1]
end Go.Proofs.Ytbiildleaelodaa
