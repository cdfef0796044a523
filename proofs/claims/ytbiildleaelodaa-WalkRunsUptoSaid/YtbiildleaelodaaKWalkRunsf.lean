/- Part 6 of a proof: lemmas beneath the theorem that the last text bears. Conditions: none. -/
import Derived.Test.YtbiildleaelodaaKWalkRunse
set_option linter.unusedSimpArgs false
set_option linter.unusedVariables false
namespace Go.Proofs.Ytbiildleaelodaa
open Go.Proofs.Ytbiildleaelodaa.AL
theorem rru_out {en an ap : Int} {l : List Hop} {k : Code} {Q : Exit → ASt → Prop} {A : ASt} {g n : Nat} {f : Nat → List Dat} (h1 : AL.look A.fr 11 = some (.loc 11 0)) (h2 : AL.look A.fr 10 = some (.loc 10 0))
    (h3 : AL.look A.locs 11 = some (.cells 83 [.p (.d (.v (.int .i64 en))), .p (.d (.v (.int .i64 an))), .p (.d (.v (.int .i64 ap))), .gr 99 g 5 n f])) (h4 : AL.look A.locs 10 = some runZ) (hn : n = l.length) (hf : ∀ i, i < n → f i = rowH l i)
    (hk : AWP Try.prog 116 k Q ⟨[(11, .loc 11 0), (10, .loc 10 0)], [(11, .cells 83 [.p (.d (.v (.int .i64 en))), .p (.d (.v (.int .i64 an))), .p (.d (.v (.int .i64 ap))), .p (.d (.sl 5 l.length (rowH l)))]), (10, runZ)]⟩) : AWP Try.prog 116 k Q A := by
  refine awp_weak (A' := ⟨[(11, .loc 11 0), (10, .loc 10 0)], [(11, .cells 83 [.p (.d (.v (.int .i64 en))), .p (.d (.v (.int .i64 an))), .p (.d (.v (.int .i64 ap))), .p (.d (.sl 5 l.length (rowH l)))]), (10, runZ)]⟩) (Weak.list ⟨⟨_, h1, Le.refl _⟩, ⟨_, h2, Le.refl _⟩, trivial⟩ ⟨⟨_, h3, ?_⟩, ⟨_, h4, of_eq_true (j8 _)⟩, trivial⟩) hk
  subst hn
  refine lle_cellsD ?_
  iterate 3 (refine LesD.cons (Le.refl _) ?_)
  exact .cons (le_gr rfl hf) .nil
structure WSr (c : Config) (R : RunR) (most : Nat) where
  i : Nat
  n : Nat
  t : Nat
  h : BitVec 128
  hops : List Hop
  hi : i ≤ most
  hl : hops.length = i
  hw : InW c n t
  hg : goW c (most - i) n t h hops = R
def rruI (c : Config) (R : RunR) (most : Nat) (s : WSr c R most) : ASt :=
  ⟨[(12, .p (.d (.v (.int .i64 (s.n : Int))))), (13, .p (.d (.v (.int .i64 (s.t : Int))))), (7, .loc 7 0), (11, .loc 11 0), (10, .loc 10 0), (5, .p (.d (.bx (configD c)))), (4, .p (.d (.v (.int .i64 (most : Int)))))],
   [(7, .cells 25 [.p (.d (.v (.int .u64 (hi s.h)))), .p (.d (.v (.int .u64 (lo s.h))))]), (11, .cells 83 [.p (.d (.v (.int .i64 0))), .p (.d (.v (.int .i64 0))), .p (.d (.v (.int .i64 0))), .gr 99 s.hops.length 5 s.hops.length (rowH s.hops)]), (99, .grow 92 5 s.hops.length s.hops.length), (10, runZ)]⟩
set_option maxRecDepth 100000 in
set_option maxHeartbeats 8000000 in
theorem RefRun_c (c : Config) (s : Spot) (h : BitVec 128) (v most : Nat) (R : RunR) (hc : c.small) (hv : v ≤ 255) (hm : most ≤ 100000) (hs : soundC c = 0) (he : s ∈ edgesT c.tp) (n : Nat) (hn : s.sw = n) (hw : InW c n 0)
    (hR : goW c most n 0 (stampR h ((edgeT c.tp s).toNat + 1) v) [] = R) :
    ACalls Try.prog 40 [.agg (configD c), .agg (spotD s), .agg (hd h), .d (.v (.int .i64 (v : Int))), .d (.v (.int .i64 (most : Int)))] (· = [.agg (runD R)]) := by
  obtain ⟨p1, p2, p3⟩ := sound_parts hs
  obtain ⟨t1, t2⟩ := sound_tenant p1 he
  have s1 := EdgeR_c c.tp s hc.tp
  rw [show edgeT c.tp s = ((edgeT c.tp s).toNat : Int) by omega] at s1
  have tT : (edgeT c.tp s).toNat < 4 := by omega
  generalize (edgeT c.tp s).toNat = T at *
  have s2 := StampR_c h T v (by omega) (by omega)
  generalize stampR h (T + 1) v = h' at *
  obtain ⟨sw, po⟩ := s
  cases hn
  unfold configD spotD topoD at *
  have sb := hc.tb
  refine z11 Try.func40 rfl (by decide +kernel) (by rw [Try.ntmps40]; simp) ?_; rw [Try.ntmps40]; simp only [frOf]
  (repeat (first | refine j0 ?_ | refine q7 rfl ?_ | refine z7 rfl ?_ | refine j6 ?_ | (refine j4 fun K hK => ?_) | (refine x5 (by kernel_rfl) (by kernel_rfl) fun K hK => ?_) | ((first | refine z6 ?_ | refine x6 ?_ | ((first | refine z2 (hK _ ?_) | refine q6 (hK _ _ (j5 (by kernel_rfl)) ?_)); clear hK K)); (first | show AWP _ _ _ _ _ | ((try simp only [q8]); first | show loopQ _ _ _ _ _ _ | show cutQ _ _ _ _ | show AWP _ _ _ _ _))) | ((first | refine z10 rfl rfl rfl ?_ | refine x10 rfl rfl rfl ?_); simp (maxSteps := 2000000) (disch := omega) only [go_sem, seval, hd, cb, ruleD, portD]; (first | refine ⟨_, s1, ?_⟩ | refine ⟨_, s2, ?_⟩)) | ((first | refine x7 [7, 10, 11, 16] rfl ?_ | refine j7 [7, 10, 11, 16] rfl ?_); simp (maxSteps := 2000000) (disch := omega) only [go_sem, seval, hd, cb, ruleD, portD]; (repeat (first | refine ⟨by omega, ?_⟩ | refine ⟨True.intro, ?_⟩)))))
  refine awp_growCell 11 99 3 5 92 (rowH []) rfl rfl (by omega) (by kernel_rfl) rfl ?_
  refine awp_loop (rruI c R most) (fun s => most - s.i) ⟨0, n, 0, h', [], by omega, rfl, hw, by rw [Nat.sub_zero]; exact hR⟩ ?_ (fun s => ?_)
  · unfold rruI runZ configD
    refine Weak.list ?_ ?_; (all_goals simp (disch := omega) only [AllF, AllL, q9, x9, j8, exists_eq_left', Option.some.injEq, go_sem, seval, hd, cb, ruleD, portD]); (all_goals (repeat' (with_reducible apply And.intro))); (all_goals try (first | exact z8 rfl | (refine j9 ?_; omega) | (refine z8 ?_; simp; done)))
    exact of_eq_true (j8 _)
  obtain ⟨i, n, t, h, hops, hi, hl, hw, hg⟩ := s
  have hkk : hops.length ≤ 100000 := by omega
  have lc : ∀ (x : Hop), hops.length + 1 = (hops ++ [x]).length := fun x => by simp
  have hn1 := hw.n1
  have hn2 := hw.n2
  have ht1 := hw.t1
  have u1 := rowTT_at c.tb n
  have hfi := find_best (tabW c n t) h
  have k1 := FindRef_c (tabW c n t) h (by have := smallR_at (hc.at n) t; unfold tabW; omega)
  have ipo := @inW_port c hs n t
  have irl := @inW_rule c hs n t
  have inx := @inW_next c hs n t
  have hsm := hc.at n
  rw [← hfi] at k1
  unfold rruI runZ configD
  by_cases hi2 : i < most
  · obtain ⟨f, hf⟩ : ∃ f, most - i = f + 1 := ⟨most - i - 1, by omega⟩
    rw [hf] at hg
    have hgo : goW c (f + 1) n t h hops = match findR (tabW c n t) h with
      | none => ⟨3, 0, 0, hops ++ [⟨n, t, -1, h⟩]⟩
      | some a => if stepE ((tabW c n t).getD a r0) = 0
        then goW c f (stepN c n ((tabW c n t).getD a r0)).toNat (stepT t ((tabW c n t).getD a r0)).toNat (setH h ((tabW c n t).getD a r0).st) (hops ++ [⟨n, t, a, h⟩])
        else ⟨stepE ((tabW c n t).getD a r0), (stepA n ((tabW c n t).getD a r0)).1, (stepA n ((tabW c n t).getD a r0)).2, hops ++ [⟨n, t, a, h⟩]⟩ := rfl
    rw [hg] at hgo
    unfold tabW at *
    generalize c.tb.getD n [] = ts at *
    have u2 := rowRR_at ts t
    have hb := smallR_at hsm t
    generalize ts.getD t [] = l at *
    cases hfi : findR l h with
    | none =>
      rw [hfi] at k1 hgo
      simp only [Option.getD_none, Option.isSome_none] at k1 hgo
      clear hg hR
      subst hgo
      unfold runD
      (repeat ((fail_if_success (show AWP _ _ (.region 9 _ _) _ _)); first | refine j0 ?_ | refine q7 rfl ?_ | refine z7 rfl ?_ | refine j6 ?_ | (refine j4 fun K hK => ?_) | (refine x5 (by kernel_rfl) (by kernel_rfl) fun K hK => ?_) | ((first | refine z6 ?_ | refine x6 ?_ | ((first | refine z2 (hK _ ?_) | refine q6 (hK _ _ (j5 (by kernel_rfl)) ?_)); clear hK K)); (first | show AWP _ _ _ _ _ | ((try simp only [q8]); first | show loopQ _ _ _ _ _ _ | show cutQ _ _ _ _ | show AWP _ _ _ _ _))) | ((first | refine z10 rfl rfl rfl ?_ | refine x10 rfl rfl rfl ?_); simp (maxSteps := 2000000) (disch := omega) only [go_sem, seval, hd, cb, ruleD, portD, u1, u2]; (first | refine ⟨_, k1, ?_⟩)) | ((first | refine x7 [7, 10, 11, 16] rfl ?_ | refine j7 [7, 10, 11, 16] rfl ?_); simp (maxSteps := 2000000) (disch := omega) only [go_sem, seval, hd, cb, ruleD, portD, u1, u2]; (repeat (first | refine ⟨by omega, ?_⟩ | refine ⟨True.intro, ?_⟩)))))
      refine rru_out (l := hops ++ [⟨n, t, -1, h⟩]) rfl rfl rfl rfl (lc _) (fun j hj => rowH_put hops ⟨n, t, -1, h⟩ j hj) ?_
      unfold runZ
      (repeat (first | refine j0 ?_ | refine q7 rfl ?_ | refine z7 rfl ?_ | refine j6 ?_ | (refine j4 fun K hK => ?_) | (refine x5 (by kernel_rfl) (by kernel_rfl) fun K hK => ?_) | ((first | refine z6 ?_ | refine x6 ?_ | ((first | refine z2 (hK _ ?_) | refine q6 (hK _ _ (j5 (by kernel_rfl)) ?_)); clear hK K)); (first | show AWP _ _ _ _ _ | ((try simp only [q8]); first | show loopQ _ _ _ _ _ _ | show cutQ _ _ _ _ | show AWP _ _ _ _ _))) | ((first | refine x7 [7, 10, 11, 16] rfl ?_ | refine j7 [7, 10, 11, 16] rfl ?_); simp (maxSteps := 2000000) (disch := omega) only [go_sem, seval, hd, cb, ruleD, portD, u1, u2]; (repeat (first | refine ⟨by omega, ?_⟩ | refine ⟨True.intro, ?_⟩)))))
      refine x8 ⟨_, ?_, rfl⟩; rw [Try.results40]; simp (disch := omega) only [ResVars, ResVar, ptrLoc, go_sem, seval, hd, cb, ruleD, portD, u1, u2]
    | some a =>
      rw [hfi] at k1 hgo
      simp only [Option.getD_some, Option.isSome_some] at k1 hgo
      have u3 := rowR_at l a
      have hal := findR_lt hfi
      have irl := irl hw hfi
      have ipo := ipo hw hfi
      have inx := inx hw hfi
      clear hg hR
      have q4 := rowH_put hops ⟨n, t, a, h⟩
      have q5 := lc ⟨n, t, a, h⟩
      generalize l.getD a r0 = x at *
      have k2 := SetT_c h x.st
      generalize setH h x.st = h2 at *
      obtain ⟨y, hy⟩ : ∃ y, y = hops ++ [⟨n, t, a, h⟩] := ⟨_, rfl⟩
      rw [← hy] at hgo q4 q5
      obtain ⟨kd4, -, -⟩ := does_parts irl.1
      rcases kd4 with h1 | h1 | h1 | h1
      · have q1 : (x.kd == 1) = true := ieq_tt h1
        rw [show stepE x = 1 by unfold stepE; simp [h1], show stepA n x = (0, 0) by unfold stepA; simp [h1], if_neg (by decide)] at hgo
        subst hgo
        unfold runD
        (repeat ((fail_if_success (show AWP _ _ (.region 17 _ _) _ _)); first | refine j0 ?_ | refine q7 rfl ?_ | refine z7 rfl ?_ | refine j6 ?_ | (refine j4 fun K hK => ?_) | (refine x5 (by kernel_rfl) (by kernel_rfl) fun K hK => ?_) | ((first | refine z6 ?_ | refine x6 ?_ | ((first | refine z2 (hK _ ?_) | refine q6 (hK _ _ (j5 (by kernel_rfl)) ?_)); clear hK K)); (first | show AWP _ _ _ _ _ | ((try simp only [q8]); first | show loopQ _ _ _ _ _ _ | show cutQ _ _ _ _ | show AWP _ _ _ _ _))) | ((first | refine z10 rfl rfl rfl ?_ | refine x10 rfl rfl rfl ?_); simp (maxSteps := 2000000) (disch := omega) only [go_sem, seval, hd, cb, ruleD, portD, u1, u2, u3, q1]; (first | refine ⟨_, k1, ?_⟩ | refine ⟨_, k2, ?_⟩)) | ((first | refine x7 [7, 10, 11, 16] rfl ?_ | refine j7 [7, 10, 11, 16] rfl ?_); simp (maxSteps := 2000000) (disch := omega) only [go_sem, seval, hd, cb, ruleD, portD, u1, u2, u3, q1]; (repeat (first | refine ⟨by omega, ?_⟩ | refine ⟨True.intro, ?_⟩)))))
        refine rru_out (l := y) rfl rfl rfl rfl q5 (fun j hj => q4 j hj) ?_
        unfold runZ
        (repeat (first | refine j0 ?_ | refine q7 rfl ?_ | refine z7 rfl ?_ | refine j6 ?_ | (refine j4 fun K hK => ?_) | (refine x5 (by kernel_rfl) (by kernel_rfl) fun K hK => ?_) | ((first | refine z6 ?_ | refine x6 ?_ | ((first | refine z2 (hK _ ?_) | refine q6 (hK _ _ (j5 (by kernel_rfl)) ?_)); clear hK K)); (first | show AWP _ _ _ _ _ | ((try simp only [q8]); first | show loopQ _ _ _ _ _ _ | show cutQ _ _ _ _ | show AWP _ _ _ _ _))) | ((first | refine x7 [7, 10, 11, 16] rfl ?_ | refine j7 [7, 10, 11, 16] rfl ?_); simp (maxSteps := 2000000) (disch := omega) only [go_sem, seval, hd, cb, ruleD, portD, u1, u2, u3, q1]; (repeat (first | refine ⟨by omega, ?_⟩ | refine ⟨True.intro, ?_⟩)))))
        refine x8 ⟨_, ?_, rfl⟩; rw [Try.results40]; simp (disch := omega) only [ResVars, ResVar, ptrLoc, go_sem, seval, hd, cb, ruleD, portD, u1, u2, u3, q1]
      · have q1 : (x.kd == 1) = false := ieq_ff (by omega)
        have q2 : (x.kd == 2) = true := ieq_tt h1
        rw [show stepE x = 2 by unfold stepE; simp [h1], show stepA n x = ((n : Int), x.pt) by unfold stepA; simp [h1], if_neg (by decide)] at hgo
        subst hgo
        unfold runD
        (repeat ((fail_if_success (show AWP _ _ (.region 21 _ _) _ _)); first | refine j0 ?_ | refine q7 rfl ?_ | refine z7 rfl ?_ | refine j6 ?_ | (refine j4 fun K hK => ?_) | (refine x5 (by kernel_rfl) (by kernel_rfl) fun K hK => ?_) | ((first | refine z6 ?_ | refine x6 ?_ | ((first | refine z2 (hK _ ?_) | refine q6 (hK _ _ (j5 (by kernel_rfl)) ?_)); clear hK K)); (first | show AWP _ _ _ _ _ | ((try simp only [q8]); first | show loopQ _ _ _ _ _ _ | show cutQ _ _ _ _ | show AWP _ _ _ _ _))) | ((first | refine z10 rfl rfl rfl ?_ | refine x10 rfl rfl rfl ?_); simp (maxSteps := 2000000) (disch := omega) only [go_sem, seval, hd, cb, ruleD, portD, u1, u2, u3, q1, q2]; (first | refine ⟨_, k1, ?_⟩ | refine ⟨_, k2, ?_⟩)) | ((first | refine x7 [7, 10, 11, 16] rfl ?_ | refine j7 [7, 10, 11, 16] rfl ?_); simp (maxSteps := 2000000) (disch := omega) only [go_sem, seval, hd, cb, ruleD, portD, u1, u2, u3, q1, q2]; (repeat (first | refine ⟨by omega, ?_⟩ | refine ⟨True.intro, ?_⟩)))))
        refine rru_out (l := y) rfl rfl rfl rfl q5 (fun j hj => q4 j hj) ?_
        unfold runZ
        (repeat (first | refine j0 ?_ | refine q7 rfl ?_ | refine z7 rfl ?_ | refine j6 ?_ | (refine j4 fun K hK => ?_) | (refine x5 (by kernel_rfl) (by kernel_rfl) fun K hK => ?_) | ((first | refine z6 ?_ | refine x6 ?_ | ((first | refine z2 (hK _ ?_) | refine q6 (hK _ _ (j5 (by kernel_rfl)) ?_)); clear hK K)); (first | show AWP _ _ _ _ _ | ((try simp only [q8]); first | show loopQ _ _ _ _ _ _ | show cutQ _ _ _ _ | show AWP _ _ _ _ _))) | ((first | refine x7 [7, 10, 11, 16] rfl ?_ | refine j7 [7, 10, 11, 16] rfl ?_); simp (maxSteps := 2000000) (disch := omega) only [go_sem, seval, hd, cb, ruleD, portD, u1, u2, u3, q1, q2]; (repeat (first | refine ⟨by omega, ?_⟩ | refine ⟨True.intro, ?_⟩)))))
        refine x8 ⟨_, ?_, rfl⟩; rw [Try.results40]; simp (disch := omega) only [ResVars, ResVar, ptrLoc, go_sem, seval, hd, cb, ruleD, portD, u1, u2, u3, q1, q2]
      · have q1 : (x.kd == 1) = false := ieq_ff (by omega)
        have q2 : (x.kd == 2) = false := ieq_ff (by omega)
        have q3 : (x.kd == 4) = false := ieq_ff (by omega)
        have e0 : stepE x = 0 := by unfold stepE; simp [h1]
        rw [e0, if_pos rfl] at hgo
        obtain ⟨i1, i2, i3⟩ := ipo h1
        obtain ⟨j1, j2, j3⟩ := inx e0
        have e1 : stepN c n x = (portAt c.tp n x.pt.toNat).pe := if_pos h1
        have e2 : stepT t x = 0 := if_pos h1
        obtain ⟨m, hpt⟩ := Int.eq_ofNat_of_zero_le i1
        rw [hpt, Int.toNat_natCast] at i2
        rw [e1, hpt, Int.toNat_natCast] at j1
        rw [e1, e2, hpt, Int.toNat_natCast] at j3 hgo
        have w1 := rowPP_at c.tp n
        unfold portAt at j1 j3 hgo
        have hbp := small_at hc.tp n
        generalize c.tp.getD n [] = ps at *
        have w2 : rowP ps m = portD (ps.getD m p0) := rfl
        generalize ps.getD m p0 = p at *
        (repeat (first | refine j0 ?_ | refine q7 rfl ?_ | refine z7 rfl ?_ | refine j6 ?_ | (refine j4 fun K hK => ?_) | (refine x5 (by kernel_rfl) (by kernel_rfl) fun K hK => ?_) | ((first | refine z6 ?_ | refine x6 ?_ | ((first | refine z2 (hK _ ?_) | refine q6 (hK _ _ (j5 (by kernel_rfl)) ?_)); clear hK K)); (first | show AWP _ _ _ _ _ | ((try simp only [q8]); first | show loopQ _ _ _ _ _ _ | show cutQ _ _ _ _ | show AWP _ _ _ _ _))) | ((first | refine z10 rfl rfl rfl ?_ | refine x10 rfl rfl rfl ?_); simp (maxSteps := 2000000) (disch := omega) only [go_sem, seval, hd, cb, ruleD, portD, u1, u2, u3, q1, q2, q3, w1, w2, hpt]; (first | refine ⟨_, k1, ?_⟩ | refine ⟨_, k2, ?_⟩)) | ((first | refine x7 [7, 10, 11, 16] rfl ?_ | refine j7 [7, 10, 11, 16] rfl ?_); simp (maxSteps := 2000000) (disch := omega) only [go_sem, seval, hd, cb, ruleD, portD, u1, u2, u3, q1, q2, q3, w1, w2, hpt]; (repeat (first | refine ⟨by omega, ?_⟩ | refine ⟨True.intro, ?_⟩)))))
        refine ⟨⟨i + 1, p.pe.toNat, 0, h2, y, by omega, by omega, j3, by rw [show most - (i + 1) = f by omega]; exact hgo.symm⟩, by simp only []; omega, ?_⟩
        refine Weak.list ?_ ?_; (all_goals simp (disch := omega) only [AllF, AllL, q9, x9, j8, exists_eq_left', Option.some.injEq, go_sem, seval, hd, cb, ruleD, portD, u1, u2, u3, q1, q2, q3, w1, w2, hpt]); (all_goals (repeat' (with_reducible apply And.intro))); (all_goals try (first | exact z8 rfl | (refine j9 ?_; omega) | (refine z8 ?_; simp; done)))
        · refine lle_cellsD ?_
          iterate 3 (refine LesD.cons (Le.refl _) ?_)
          exact .cons (le_grgr q5 q5 q4) .nil
        · exact lle_grow q5 q5
      · have q1 : (x.kd == 1) = false := ieq_ff (by omega)
        have q2 : (x.kd == 2) = false := ieq_ff (by omega)
        have q3 : (x.kd == 4) = true := ieq_tt h1
        have e0 : stepE x = 0 := by unfold stepE; simp [h1]
        rw [e0, if_pos rfl] at hgo
        obtain ⟨j1, j2, j3⟩ := inx e0
        have e1 : stepN c n x = n := if_neg (by omega)
        have e2 : stepT t x = x.tb := by unfold stepT; rw [if_neg (by omega), if_pos h1]
        rw [e1, e2, Int.toNat_natCast] at j3 hgo
        rw [e2] at j2
        (repeat (first | refine j0 ?_ | refine q7 rfl ?_ | refine z7 rfl ?_ | refine j6 ?_ | (refine j4 fun K hK => ?_) | (refine x5 (by kernel_rfl) (by kernel_rfl) fun K hK => ?_) | ((first | refine z6 ?_ | refine x6 ?_ | ((first | refine z2 (hK _ ?_) | refine q6 (hK _ _ (j5 (by kernel_rfl)) ?_)); clear hK K)); (first | show AWP _ _ _ _ _ | ((try simp only [q8]); first | show loopQ _ _ _ _ _ _ | show cutQ _ _ _ _ | show AWP _ _ _ _ _))) | ((first | refine z10 rfl rfl rfl ?_ | refine x10 rfl rfl rfl ?_); simp (maxSteps := 2000000) (disch := omega) only [go_sem, seval, hd, cb, ruleD, portD, u1, u2, u3, q1, q2, q3]; (first | refine ⟨_, k1, ?_⟩ | refine ⟨_, k2, ?_⟩)) | ((first | refine x7 [7, 10, 11, 16] rfl ?_ | refine j7 [7, 10, 11, 16] rfl ?_); simp (maxSteps := 2000000) (disch := omega) only [go_sem, seval, hd, cb, ruleD, portD, u1, u2, u3, q1, q2, q3]; (repeat (first | refine ⟨by omega, ?_⟩ | refine ⟨True.intro, ?_⟩)))))
        refine ⟨⟨i + 1, n, x.tb.toNat, h2, y, by omega, by omega, j3, by rw [show most - (i + 1) = f by omega]; exact hgo.symm⟩, by simp only []; omega, ?_⟩
        refine Weak.list ?_ ?_; (all_goals simp (disch := omega) only [AllF, AllL, q9, x9, j8, exists_eq_left', Option.some.injEq, go_sem, seval, hd, cb, ruleD, portD, u1, u2, u3, q1, q2, q3]); (all_goals (repeat' (with_reducible apply And.intro))); (all_goals try (first | exact z8 rfl | (refine j9 ?_; omega) | (refine z8 ?_; simp; done)))
        · refine lle_cellsD ?_
          iterate 3 (refine LesD.cons (Le.refl _) ?_)
          exact .cons (le_grgr q5 q5 q4) .nil
        · exact lle_grow q5 q5
  · have : i = most := by omega
    have hR2 : R = ⟨4, 0, 0, hops⟩ := by rw [← hg, this, Nat.sub_self]; rfl
    subst hR2
    unfold runD
    subst this
    (repeat ((fail_if_success (show AWP _ _ (.region 25 _ _) _ _)); first | refine j0 ?_ | refine q7 rfl ?_ | refine z7 rfl ?_ | refine j6 ?_ | (refine j4 fun K hK => ?_) | (refine x5 (by kernel_rfl) (by kernel_rfl) fun K hK => ?_) | ((first | refine z6 ?_ | refine x6 ?_ | ((first | refine z2 (hK _ ?_) | refine q6 (hK _ _ (j5 (by kernel_rfl)) ?_)); clear hK K)); (first | show AWP _ _ _ _ _ | ((try simp only [q8]); first | show loopQ _ _ _ _ _ _ | show cutQ _ _ _ _ | show AWP _ _ _ _ _))) | ((first | refine x7 [7, 10, 11, 16] rfl ?_ | refine j7 [7, 10, 11, 16] rfl ?_); simp (maxSteps := 2000000) (disch := omega) only [go_sem, seval, hd, cb, ruleD, portD]; (repeat (first | refine ⟨by omega, ?_⟩ | refine ⟨True.intro, ?_⟩)))))
    refine rru_out (l := hops) rfl rfl rfl rfl rfl (fun j hj => rfl) ?_
    unfold runZ
    (repeat (first | refine j0 ?_ | refine q7 rfl ?_ | refine z7 rfl ?_ | refine j6 ?_ | (refine j4 fun K hK => ?_) | (refine x5 (by kernel_rfl) (by kernel_rfl) fun K hK => ?_) | ((first | refine z6 ?_ | refine x6 ?_ | ((first | refine z2 (hK _ ?_) | refine q6 (hK _ _ (j5 (by kernel_rfl)) ?_)); clear hK K)); (first | show AWP _ _ _ _ _ | ((try simp only [q8]); first | show loopQ _ _ _ _ _ _ | show cutQ _ _ _ _ | show AWP _ _ _ _ _))) | ((first | refine x7 [7, 10, 11, 16] rfl ?_ | refine j7 [7, 10, 11, 16] rfl ?_); simp (maxSteps := 2000000) (disch := omega) only [go_sem, seval, hd, cb, ruleD, portD]; (repeat (first | refine ⟨by omega, ?_⟩ | refine ⟨True.intro, ?_⟩)))))
    refine x8 ⟨_, ?_, rfl⟩; rw [Try.results40]; simp (disch := omega) only [ResVars, ResVar, ptrLoc, go_sem, seval, hd, cb, ruleD, portD]
end Go.Proofs.Ytbiildleaelodaa
set_option linter.unusedSimpArgs false
set_option linter.unusedVariables false
namespace Go.Proofs.Ytbiildleaelodaa
open Go.Proofs.Ytbiildleaelodaa.AL
def ixHI (l : List Hop) (g : FuncId) (caps : List PV) (p : Hop → Bool) (R : Int) (s : {i : Nat // i ≤ l.length ∧ idxF p (l.drop i) i = R}) : ASt :=
  ⟨[(8, .p (.d (.v (.int .i64 (s.val : Int))))), (7, .p (.d (.v (.int .i64 (l.length : Int))))), (1, .p (.fn (.func g) [] caps)), (0, .p (.d (.sl 5 l.length (rowH l))))], []⟩
theorem IndexH_c (g : FuncId) (caps : List PV) (p : Hop → Bool) (l : List Hop) (hl : l.length ≤ 140737488355328) (hp : ∀ k ∈ l, ACalls Try.prog g (.agg (hopD k) :: caps) (· = [.d (.v (.bool (p k)))])) :
    ACalls Try.prog 83 [.d (.sl 5 l.length (rowH l)), .fn (.func g) [] caps] (· = [.d (.v (.int .i64 (idxF p l 0)))]) := by
  obtain ⟨R, hR⟩ : ∃ R, idxF p l 0 = R := ⟨_, rfl⟩
  rw [hR]
  refine z11 Try.func83 rfl (by decide +kernel) (by rw [Try.ntmps83]; simp) ?_; rw [Try.ntmps83]; simp only [frOf]
  (repeat (first | refine j0 ?_ | refine q7 rfl ?_ | refine z7 rfl ?_ | refine j6 ?_ | (refine j4 fun K hK => ?_) | (refine x5 (by kernel_rfl) (by kernel_rfl) fun K hK => ?_) | ((first | refine z6 ?_ | refine x6 ?_ | ((first | refine z2 (hK _ ?_) | refine q6 (hK _ _ (j5 (by kernel_rfl)) ?_)); clear hK K)); (first | show AWP _ _ _ _ _ | ((try simp only [q8]); first | show loopQ _ _ _ _ _ _ | show cutQ _ _ _ _ | show AWP _ _ _ _ _))) | ((first | refine x7 [] rfl ?_ | refine j7 [] rfl ?_); simp (maxSteps := 2000000) (disch := omega) only [go_sem, seval, hd, hopD]; (repeat (first | refine ⟨by omega, ?_⟩ | refine ⟨True.intro, ?_⟩)))))
  refine awp_loop (ixHI l g caps p R) (fun s => l.length - s.val) ⟨0, by omega, by rw [List.drop_zero]; exact hR⟩ ?_ (fun s => ?_)
  · unfold ixHI
    refine Weak.list ?_ ?_; (all_goals simp (disch := omega) only [AllF, AllL, q9, x9, j8, exists_eq_left', Option.some.injEq, go_sem, seval, hd, hopD]); (all_goals (repeat' (with_reducible apply And.intro))); (all_goals try (first | exact z8 rfl | (refine j9 ?_; omega) | (refine z8 ?_; simp; done)))
  obtain ⟨i, hi, he⟩ := s
  unfold ixHI
  by_cases hn : i < l.length
  · rw [drop_getD l i hop0 hn] at he
    have r1 := rowH_at l i
    have hk := hp _ (getD_in hn hop0)
    generalize l.getD i hop0 = K at he r1 hk
    unfold idxF at he
    cases hb : p K
    all_goals
      rw [hb] at he hk
      simp only [Bool.false_eq_true, if_false, if_true] at he
      (repeat (first | refine j0 ?_ | refine q7 rfl ?_ | refine z7 rfl ?_ | refine j6 ?_ | (refine j4 fun K hK => ?_) | (refine x5 (by kernel_rfl) (by kernel_rfl) fun K hK => ?_) | ((first | refine z6 ?_ | refine x6 ?_ | ((first | refine z2 (hK _ ?_) | refine q6 (hK _ _ (j5 (by kernel_rfl)) ?_)); clear hK K)); (first | show AWP _ _ _ _ _ | ((try simp only [q8]); first | show loopQ _ _ _ _ _ _ | show cutQ _ _ _ _ | show AWP _ _ _ _ _))) | ((first | refine z10 rfl rfl rfl ?_ | refine x10 rfl rfl rfl ?_); simp (maxSteps := 2000000) (disch := omega) only [go_sem, seval, hd, hopD, r1]; (first | refine ⟨_, hk, ?_⟩)) | ((first | refine x7 [] rfl ?_ | refine j7 [] rfl ?_); simp (maxSteps := 2000000) (disch := omega) only [go_sem, seval, hd, hopD, r1]; (repeat (first | refine ⟨by omega, ?_⟩ | refine ⟨True.intro, ?_⟩)))))
    · refine ⟨⟨i + 1, by omega, he⟩, by simp only []; omega, ?_⟩
      refine Weak.list ?_ ?_; (all_goals simp (disch := omega) only [AllF, AllL, q9, x9, j8, exists_eq_left', Option.some.injEq, go_sem, seval, hd, hopD, r1]); (all_goals (repeat' (with_reducible apply And.intro))); (all_goals try (first | exact z8 rfl | (refine j9 ?_; omega) | (refine z8 ?_; simp; done)))
    · refine x8 ⟨_, ?_, rfl⟩; rw [Try.results83]; simp (disch := omega) only [ResVars, ResVar, ptrLoc, go_sem, seval, hd, hopD, r1]
      rw [he]
  · have : i = l.length := by omega
    subst this
    rw [List.drop_length] at he
    unfold idxF at he
    (repeat (first | refine j0 ?_ | refine q7 rfl ?_ | refine z7 rfl ?_ | refine j6 ?_ | (refine j4 fun K hK => ?_) | (refine x5 (by kernel_rfl) (by kernel_rfl) fun K hK => ?_) | ((first | refine z6 ?_ | refine x6 ?_ | ((first | refine z2 (hK _ ?_) | refine q6 (hK _ _ (j5 (by kernel_rfl)) ?_)); clear hK K)); (first | show AWP _ _ _ _ _ | ((try simp only [q8]); first | show loopQ _ _ _ _ _ _ | show cutQ _ _ _ _ | show AWP _ _ _ _ _))) | ((first | refine x7 [] rfl ?_ | refine j7 [] rfl ?_); simp (maxSteps := 2000000) (disch := omega) only [go_sem, seval, hd, hopD]; (repeat (first | refine ⟨by omega, ?_⟩ | refine ⟨True.intro, ?_⟩)))))
    refine x8 ⟨_, ?_, rfl⟩; rw [Try.results83]; simp (disch := omega) only [ResVars, ResVar, ptrLoc, go_sem, seval, hd, hopD]
    rw [he]
theorem ContainsH_c (g : FuncId) (caps : List PV) (p : Hop → Bool) (l : List Hop) (hl : l.length ≤ 140737488355328) (hp : ∀ k ∈ l, ACalls Try.prog g (.agg (hopD k) :: caps) (· = [.d (.v (.bool (p k)))])) :
    ACalls Try.prog 60 [.d (.sl 5 l.length (rowH l)), .fn (.func g) [] caps] (· = [.d (.v (.bool (l.any p)))]) := by
  have ix := IndexH_c g caps p l hl hp
  have ia := idxF_any p l 0
  generalize idxF p l 0 = R at ix ia
  refine z11 Try.func60 rfl (by decide +kernel) (by rw [Try.ntmps60]; simp) ?_; rw [Try.ntmps60]; simp only [frOf]
  (repeat (first | refine j0 ?_ | refine q7 rfl ?_ | refine z7 rfl ?_ | refine j6 ?_ | (refine j4 fun K hK => ?_) | (refine x5 (by kernel_rfl) (by kernel_rfl) fun K hK => ?_) | ((first | refine z6 ?_ | refine x6 ?_ | ((first | refine z2 (hK _ ?_) | refine q6 (hK _ _ (j5 (by kernel_rfl)) ?_)); clear hK K)); (first | show AWP _ _ _ _ _ | ((try simp only [q8]); first | show loopQ _ _ _ _ _ _ | show cutQ _ _ _ _ | show AWP _ _ _ _ _))) | ((first | refine z10 rfl rfl rfl ?_ | refine x10 rfl rfl rfl ?_); simp (maxSteps := 2000000) (disch := omega) only [go_sem, seval, hd, hopD]; (first | refine ⟨_, ix, ?_⟩)) | ((first | refine x7 [] rfl ?_ | refine j7 [] rfl ?_); simp (maxSteps := 2000000) (disch := omega) only [go_sem, seval, hd, hopD]; (repeat (first | refine ⟨by omega, ?_⟩ | refine ⟨True.intro, ?_⟩)))))
  refine x8 ⟨_, ?_, rfl⟩; rw [Try.results60]; simp (disch := omega) only [ResVars, ResVar, ptrLoc, go_sem, seval, hd, hopD]
  rw [ia]
end Go.Proofs.Ytbiildleaelodaa
set_option linter.unusedSimpArgs false
set_option linter.unusedVariables false
namespace Go.Proofs.Ytbiildleaelodaa
open Go.Proofs.Ytbiildleaelodaa.AL
theorem eqI_reflW : ∀ l : List Int, eqI l l = true
  | [] => rfl
  | a :: r => by simp [eqI, eqI_reflW r]
def sameWI (R : RunR) (s : {i : Nat // i ≤ R.hops.length}) : ASt :=
  ⟨[(5, .p (.d (.v (.int .i64 (s.val : Int))))), (2, .p (.d (.bx (runD R)))), (3, .p (.d (.bx (runD R))))], []⟩
theorem SameRun_zero : ACalls Try.prog 39 [.agg zeroRun, .agg zeroRun] (· = [.d (.v (.bool true))]) := by
  unfold zeroRun
  refine z11 Try.func39 rfl (by decide +kernel) (by rw [Try.ntmps39]; simp) ?_; rw [Try.ntmps39]; simp only [frOf]
  (repeat (first | refine j0 ?_ | refine q7 rfl ?_ | refine z7 rfl ?_ | refine j6 ?_ | (refine j4 fun K hK => ?_) | (refine x5 (by kernel_rfl) (by kernel_rfl) fun K hK => ?_) | ((first | refine z6 ?_ | refine x6 ?_ | ((first | refine z2 (hK _ ?_) | refine q6 (hK _ _ (j5 (by kernel_rfl)) ?_)); clear hK K)); (first | show AWP _ _ _ _ _ | ((try simp only [q8]); first | show loopQ _ _ _ _ _ _ | show cutQ _ _ _ _ | show AWP _ _ _ _ _))) | ((first | refine x7 [] rfl ?_ | refine j7 [] rfl ?_); simp (maxSteps := 2000000) (disch := omega) only [go_sem, seval, hd, hopD, q10, eqty92, eqI_reflW, bne_self_eq_false]; (repeat (first | refine ⟨by omega, ?_⟩ | refine ⟨True.intro, ?_⟩)))))
  refine awp_loop (fun _ : Unit => ⟨[(5, .p (.d (.v (.int .i64 0)))), (2, .p (.d (.bx zeroRun))), (3, .p (.d (.bx zeroRun)))], []⟩) (fun _ => 0) () ?_ (fun s => ?_)
  · unfold zeroRun
    refine Weak.list ?_ ?_; (all_goals simp (disch := omega) only [AllF, AllL, q9, x9, j8, exists_eq_left', Option.some.injEq, go_sem, seval, hd, hopD, q10, eqty92, eqI_reflW, bne_self_eq_false]); (all_goals (repeat' (with_reducible apply And.intro))); (all_goals try (first | exact z8 rfl | (refine j9 ?_; omega) | (refine z8 ?_; simp; done)))
  unfold zeroRun
  (repeat (first | refine j0 ?_ | refine q7 rfl ?_ | refine z7 rfl ?_ | refine j6 ?_ | (refine j4 fun K hK => ?_) | (refine x5 (by kernel_rfl) (by kernel_rfl) fun K hK => ?_) | ((first | refine z6 ?_ | refine x6 ?_ | ((first | refine z2 (hK _ ?_) | refine q6 (hK _ _ (j5 (by kernel_rfl)) ?_)); clear hK K)); (first | show AWP _ _ _ _ _ | ((try simp only [q8]); first | show loopQ _ _ _ _ _ _ | show cutQ _ _ _ _ | show AWP _ _ _ _ _))) | ((first | refine x7 [] rfl ?_ | refine j7 [] rfl ?_); simp (maxSteps := 2000000) (disch := omega) only [go_sem, seval, hd, hopD, q10, eqty92, eqI_reflW, bne_self_eq_false]; (repeat (first | refine ⟨by omega, ?_⟩ | refine ⟨True.intro, ?_⟩)))))
  refine x8 ⟨_, ?_, rfl⟩; rw [Try.results39]; simp (disch := omega) only [ResVars, ResVar, ptrLoc, go_sem, seval, hd, hopD, q10, eqty92, eqI_reflW, bne_self_eq_false]
set_option maxRecDepth 100000 in
theorem SameRun_c (R : RunR) (hl : R.hops.length ≤ 1099511627776) : ACalls Try.prog 39 [.agg (runD R), .agg (runD R)] (· = [.d (.v (.bool true))]) := by
  refine z11 Try.func39 rfl (by decide +kernel) (by rw [Try.ntmps39]; simp) ?_; rw [Try.ntmps39]; simp only [frOf]
  unfold runD
  (repeat (first | refine j0 ?_ | refine q7 rfl ?_ | refine z7 rfl ?_ | refine j6 ?_ | (refine j4 fun K hK => ?_) | (refine x5 (by kernel_rfl) (by kernel_rfl) fun K hK => ?_) | ((first | refine z6 ?_ | refine x6 ?_ | ((first | refine z2 (hK _ ?_) | refine q6 (hK _ _ (j5 (by kernel_rfl)) ?_)); clear hK K)); (first | show AWP _ _ _ _ _ | ((try simp only [q8]); first | show loopQ _ _ _ _ _ _ | show cutQ _ _ _ _ | show AWP _ _ _ _ _))) | ((first | refine x7 [] rfl ?_ | refine j7 [] rfl ?_); simp (maxSteps := 2000000) (disch := omega) only [go_sem, seval, hd, hopD, q10, eqty92, eqI_reflW, bne_self_eq_false]; (repeat (first | refine ⟨by omega, ?_⟩ | refine ⟨True.intro, ?_⟩)))))
  refine awp_loop (sameWI R) (fun s => R.hops.length - s.val) ⟨0, by omega⟩ ?_ (fun s => ?_)
  · unfold sameWI runD
    refine Weak.list ?_ ?_; (all_goals simp (disch := omega) only [AllF, AllL, q9, x9, j8, exists_eq_left', Option.some.injEq, go_sem, seval, hd, hopD, q10, eqty92, eqI_reflW, bne_self_eq_false]); (all_goals (repeat' (with_reducible apply And.intro))); (all_goals try (first | exact z8 rfl | (refine j9 ?_; omega) | (refine z8 ?_; simp; done)))
  obtain ⟨i, hi⟩ := s
  unfold sameWI runD
  have r1 := rowH_at R.hops i
  by_cases hi2 : i < R.hops.length
  · 
    (repeat (first | refine j0 ?_ | refine q7 rfl ?_ | refine z7 rfl ?_ | refine j6 ?_ | (refine j4 fun K hK => ?_) | (refine x5 (by kernel_rfl) (by kernel_rfl) fun K hK => ?_) | ((first | refine z6 ?_ | refine x6 ?_ | ((first | refine z2 (hK _ ?_) | refine q6 (hK _ _ (j5 (by kernel_rfl)) ?_)); clear hK K)); (first | show AWP _ _ _ _ _ | ((try simp only [q8]); first | show loopQ _ _ _ _ _ _ | show cutQ _ _ _ _ | show AWP _ _ _ _ _))) | ((first | refine x7 [] rfl ?_ | refine j7 [] rfl ?_); simp (maxSteps := 2000000) (disch := omega) only [go_sem, seval, hd, hopD, q10, eqty92, eqI_reflW, bne_self_eq_false, r1]; (repeat (first | refine ⟨by omega, ?_⟩ | refine ⟨True.intro, ?_⟩)))))
    refine ⟨⟨i + 1, by omega⟩, by simp only []; omega, ?_⟩
    refine Weak.list ?_ ?_; (all_goals simp (disch := omega) only [AllF, AllL, q9, x9, j8, exists_eq_left', Option.some.injEq, go_sem, seval, hd, hopD, q10, eqty92, eqI_reflW, bne_self_eq_false, r1]); (all_goals (repeat' (with_reducible apply And.intro))); (all_goals try (first | exact z8 rfl | (refine j9 ?_; omega) | (refine z8 ?_; simp; done)))
  · have : i = R.hops.length := by omega
    subst this
    (repeat (first | refine j0 ?_ | refine q7 rfl ?_ | refine z7 rfl ?_ | refine j6 ?_ | (refine j4 fun K hK => ?_) | (refine x5 (by kernel_rfl) (by kernel_rfl) fun K hK => ?_) | ((first | refine z6 ?_ | refine x6 ?_ | ((first | refine z2 (hK _ ?_) | refine q6 (hK _ _ (j5 (by kernel_rfl)) ?_)); clear hK K)); (first | show AWP _ _ _ _ _ | ((try simp only [q8]); first | show loopQ _ _ _ _ _ _ | show cutQ _ _ _ _ | show AWP _ _ _ _ _))) | ((first | refine x7 [] rfl ?_ | refine j7 [] rfl ?_); simp (maxSteps := 2000000) (disch := omega) only [go_sem, seval, hd, hopD, q10, eqty92, eqI_reflW, bne_self_eq_false, r1]; (repeat (first | refine ⟨by omega, ?_⟩ | refine ⟨True.intro, ?_⟩)))))
    refine x8 ⟨_, ?_, rfl⟩; rw [Try.results39]; simp (disch := omega) only [ResVars, ResVar, ptrLoc, go_sem, seval, hd, hopD, q10, eqty92, eqI_reflW, bne_self_eq_false, r1]
end Go.Proofs.Ytbiildleaelodaa
set_option linter.unusedSimpArgs false
set_option linter.unusedVariables false
namespace Go.Proofs.Ytbiildleaelodaa
open Go Go.Proofs.Ytbiildleaelodaa.AL
def DLe (x y : Dat) : Prop := ∀ (w : World) (g : Nat → Nat) (v : Value), RelD w g v x → RelD w g v y
inductive DLes : List Dat → List Dat → Prop
  | nil : DLes [] []
  | cons {x y : Dat} {xs ys : List Dat} (h : DLe x y) (t : DLes xs ys) : DLes (x :: xs) (y :: ys)
theorem dle_refl (x : Dat) : DLe x x := fun _ _ _ h => h
theorem DLes.refl : ∀ xs : List Dat, DLes xs xs
  | [] => .nil
  | x :: xs => .cons (dle_refl x) (DLes.refl xs)
theorem DLes.of_eq {xs ys : List Dat} (h : xs = ys) : DLes xs ys := h ▸ DLes.refl xs
theorem DLes.length {xs ys : List Dat} (h : DLes xs ys) : xs.length = ys.length := by
  induction h with
  | nil => rfl
  | cons _ _ ih => simp [ih]
theorem DLes.at {xs ys : List Dat} (h : DLes xs ys) : ∀ {j : Nat} {y : Dat}, ys[j]? = some y → ∃ x, xs[j]? = some x ∧ DLe x y := by
  induction h with
  | nil => intro j y h; simp at h
  | cons h t ih =>
    intro j y hy
    cases j with
    | zero => simp at hy; subst hy; exact ⟨_, by simp, h⟩
    | succ j => simp at hy; obtain ⟨x, h1, h2⟩ := ih hy; exact ⟨x, by simpa using h1, h2⟩
theorem dle_sl {sz n n' : Nat} {f f' : Nat → List Dat} (hn : n = n') (hf : ∀ i, i < n → DLes (f i) (f' i)) : DLe (.sl sz n f) (.sl sz n' f') := by
  subst hn
  intro w g v r
  cases r with
  | sl0 a c sz f => exact .sl0 _ _ _ _
  | sl b off n c sz f u h1 h2 h3 h4 h5 =>
    refine .sl b off n c sz f' u h1 (fun i hi => by rw [← (hf i hi).length]; exact h2 i hi) h3 h4 (fun i j y hi hy => ?_)
    obtain ⟨x, k1, k2⟩ := (hf i hi).at hy
    exact k2 _ _ _ (h5 i j x hi k1)
theorem dle_emp {a : Option Addr} {c sz : Nat} {f : Nat → List Dat} : DLe (.v (.slice a 0 c)) (.sl sz 0 f) := by
  intro w g v r
  cases r
  exact .sl0 _ _ _ _
theorem ple_agg {xs ys : List Dat} (h : DLes xs ys) : PLe (.agg xs) (.agg ys) := by
  intro w g v r
  cases r with
  | agg vs _ h1 h2 =>
    refine .agg vs ys (by rw [h1, h.length]) (fun j v y hv hy => ?_)
    obtain ⟨x, k1, k2⟩ := h.at hy
    exact k2 _ _ _ (h2 j v x hv k1)
theorem acalls_agg {P : Program} {f : FuncId} {xs : List PV} {ds ds' : List Dat} (h : DLes ds ds') (c : ACalls P f xs (· = [.agg ds])) : ACalls P f xs (· = [.agg ds']) := by
  refine acalls_iff.2 fun w g vs hz hr => ?_
  have := acalls_iff.1 c w g vs hz hr
  unfold CallRes at *
  split at this
  · refine this.mono fun e w' ⟨v, he, g', rs, h1, h2, h3⟩ => ?_
    subst h2
    exact ⟨v, he, g', _, h1, rfl, ple_agg h _ _ _ h3⟩
  · obtain ⟨g', rs, h1, h2, h3⟩ := this
    subst h2
    exact ⟨g', _, h1, rfl, ple_agg h _ _ _ h3⟩
  · exact this.elim
end Go.Proofs.Ytbiildleaelodaa
set_option linter.unusedSimpArgs false
set_option linter.unusedVariables false
namespace Go.Proofs.Ytbiildleaelodaa
open Go.Proofs.Ytbiildleaelodaa.AL
def passW (l : List Hop) (n : Int) : Bool := l.any fun x => x.sw == n
theorem passed1_c (x : Hop) (n : Int) : ACalls Try.prog 61 [.agg (hopD x), .d (.bx [.v (.int .i64 n)])] (· = [.d (.v (.bool (x.sw == n)))]) := by
  generalize hq : (x.sw == n) = q
  refine z11 Try.func61 rfl (by decide +kernel) (by rw [Try.ntmps61]; simp) ?_; rw [Try.ntmps61]; simp only [frOf]
  (repeat (first | refine j0 ?_ | refine q7 rfl ?_ | refine z7 rfl ?_ | refine j6 ?_ | (refine j4 fun K hK => ?_) | (refine x5 (by kernel_rfl) (by kernel_rfl) fun K hK => ?_) | ((first | refine z6 ?_ | refine x6 ?_ | ((first | refine z2 (hK _ ?_) | refine q6 (hK _ _ (j5 (by kernel_rfl)) ?_)); clear hK K)); (first | show AWP _ _ _ _ _ | ((try simp only [q8]); first | show loopQ _ _ _ _ _ _ | show cutQ _ _ _ _ | show AWP _ _ _ _ _))) | ((first | refine x7 [] rfl ?_ | refine j7 [] rfl ?_); simp (maxSteps := 2000000) (disch := omega) only [go_sem, seval, hd, hopD, runD, hq]; (repeat (first | refine ⟨by omega, ?_⟩ | refine ⟨True.intro, ?_⟩)))))
  refine x8 ⟨_, ?_, rfl⟩; rw [Try.results61]; simp (disch := omega) only [ResVars, ResVar, ptrLoc, go_sem, seval, hd, hopD, runD, hq]
theorem Passed_c (en an ap : Int) (l : List Hop) (n : Int) (hl : l.length ≤ 140737488355328) : ACalls Try.prog 41 [.agg [.v (.int .i64 en), .v (.int .i64 an), .v (.int .i64 ap), .sl 5 l.length (rowH l)], .d (.v (.int .i64 n))] (· = [.d (.v (.bool (passW l n)))]) := by
  have cf := ContainsH_c 61 [.d (.bx [.v (.int .i64 n)])] (fun x => x.sw == n) l hl (fun k _ => passed1_c k n)
  unfold passW
  generalize l.any (fun x => x.sw == n) = b at cf
  refine z11 Try.func41 rfl (by decide +kernel) (by rw [Try.ntmps41]; simp) ?_; rw [Try.ntmps41]; simp only [frOf]
  (repeat (first | refine j0 ?_ | refine q7 rfl ?_ | refine z7 rfl ?_ | refine j6 ?_ | (refine j4 fun K hK => ?_) | (refine x5 (by kernel_rfl) (by kernel_rfl) fun K hK => ?_) | ((first | refine z6 ?_ | refine x6 ?_ | ((first | refine z2 (hK _ ?_) | refine q6 (hK _ _ (j5 (by kernel_rfl)) ?_)); clear hK K)); (first | show AWP _ _ _ _ _ | ((try simp only [q8]); first | show loopQ _ _ _ _ _ _ | show cutQ _ _ _ _ | show AWP _ _ _ _ _))) | ((first | refine z10 rfl rfl rfl ?_ | refine x10 rfl rfl rfl ?_); simp (maxSteps := 2000000) (disch := omega) only [go_sem, seval, hd, hopD, runD]; (first | refine ⟨_, cf, ?_⟩)) | ((first | refine x7 [] rfl ?_ | refine j7 [] rfl ?_); simp (maxSteps := 2000000) (disch := omega) only [go_sem, seval, hd, hopD, runD]; (repeat (first | refine ⟨by omega, ?_⟩ | refine ⟨True.intro, ?_⟩)))))
  refine x8 ⟨_, ?_, rfl⟩; rw [Try.results41]; simp (disch := omega) only [ResVars, ResVar, ptrLoc, go_sem, seval, hd, hopD, runD]
theorem stamp_ok {c : Config} {s : Spot} {v : Int} (he : stampE c s v = 0) : soundC c = 0 ∧ 0 ≤ v ∧ v ≤ 255 ∧ s ∈ edgesT c.tp := by
  unfold stampE at he
  split at he
  · rename_i h; exact absurd he h
  · rename_i h1
    split at he
    · cases he
    · split at he
      · cases he
      · rename_i h2 h3
        refine ⟨by omega, by omega, by omega, ?_⟩
        unfold edgesHas at h3
        simpa using h3
theorem edge_in {c : Config} {s : Spot} (hs : soundC c = 0) (hm : s ∈ edgesT c.tp) : ∃ n : Nat, s.sw = n ∧ InW c n 0 := by
  obtain ⟨i, j, rfl, g1, -, -⟩ := edgesT_at hm
  obtain ⟨p1, p2, p3⟩ := sound_parts hs
  exact ⟨i, rfl, by omega, g1, (soundTab_parts (p3 i (by omega))).1⟩
def runOf (c : Config) (s : Spot) (h : BitVec 128) (v : Int) : RunR := goW c 10800 s.sw.toNat 0 (setH h (stampV (edgeT c.tp s) v)) []
theorem Run_ok (c : Config) (s : Spot) (h : BitVec 128) (v : Int) (hc : c.small) (he : stampE c s v = 0) :
    ACalls Try.prog 36 [.agg (configD c), .agg (spotD s), .agg (hd h), .d (.v (.int .i64 v))] (· = [.agg (runD (runOf c s h v)), .d (.v (.int .i64 0))]) := by
  obtain ⟨h1, h2, h3, h4⟩ := stamp_ok he
  obtain ⟨n, hn, hw⟩ := edge_in h1 h4
  refine Run_good c s h v _ hc (by omega) he h1 n hn hw ?_
  unfold runOf
  rw [show stampC c s v = stampV (edgeT c.tp s) v from if_pos he, hn, Int.toNat_natCast]
theorem RefRun_ok (c : Config) (s : Spot) (h : BitVec 128) (v : Int) (hc : c.small) (he : stampE c s v = 0) :
    ACalls Try.prog 40 [.agg (configD c), .agg (spotD s), .agg (hd h), .d (.v (.int .i64 v)), .d (.v (.int .i64 10800))] (· = [.agg (runD (runOf c s h v))]) := by
  obtain ⟨h1, h2, h3, h4⟩ := stamp_ok he
  obtain ⟨n, hn, hw⟩ := edge_in h1 h4
  obtain ⟨w, rfl⟩ : ∃ w : Nat, v = (w : Int) := ⟨v.toNat, by omega⟩
  refine RefRun_c c s h w 10800 _ hc (by omega) (by decide) h1 h4 n hn hw ?_
  obtain ⟨t1, t2⟩ := sound_tenant (sound_parts h1).1 h4
  unfold runOf
  have st := stamp_eq h (edgeT c.tp s).toNat w (by omega) (by omega)
  rw [Int.toNat_of_nonneg t1] at st
  rw [st, hn, Int.toNat_natCast]
theorem goW_len (c : Config) : ∀ (f n t : Nat) (h : BitVec 128) (hops : List Hop), (goW c f n t h hops).hops.length ≤ hops.length + f
  | 0, _, _, _, hops => Nat.le_refl _
  | f + 1, n, t, h, hops => by
    unfold goW
    split
    · simp
    · split
      · refine Nat.le_trans (goW_len c f _ _ _ _) ?_
        simp; omega
      · simp
theorem runOf_len (c : Config) (s : Spot) (h : BitVec 128) (v : Int) : (runOf c s h v).hops.length ≤ 10800 := by
  have := goW_len c 10800 s.sw.toNat 0 (setH h (stampV (edgeT c.tp s) v)) []
  unfold runOf
  simpa using this
def ringK : Config := ⟨[[⟨1, 0, 0, 0, 0⟩, ⟨2, 0, 1, 0, 1⟩], [⟨2, 0, 0, 1, 1⟩, ⟨1, 0, 0, 0, 0⟩]], ⟨1, [], []⟩, [[[⟨0, ⟨1, 1⟩, 3, 1, 0, ⟨0, 0⟩⟩]], [[⟨0, ⟨1, 1⟩, 2, 1, 0, ⟨0, 0⟩⟩]]]⟩
def iI (n : Int) : Dat := .v (.int .i64 n)
def iU (n : Int) : Dat := .v (.int .u64 n)
def pRaw (a b c d e : Int) : List Dat := [iI a, iI b, iI c, iI d, iI e]
def rRaw (k : Int) : List Dat := [iI 0, iU 0, iU 1, iU 0, iU 1, iI k, iI 1, iI 0, iU 0, iU 0, iU 0, iU 0]
def tRaw (k : Int) : List Dat := [.sl 1 1 fun i => [[.sl 12 1 fun i => [rRaw k].getD i []]].getD i []]
def ringRaw : List Dat := [.sl 1 2 fun i => [[.sl 5 2 fun i => [pRaw 1 0 0 0 0, pRaw 2 0 1 0 1].getD i []], [.sl 5 2 fun i => [pRaw 2 0 0 1 1, pRaw 1 0 0 0 0].getD i []]].getD i [], iI 1, .v (.slice none 0 0), .v (.slice none 0 0),
  .sl 1 2 fun i => [tRaw 3, tRaw 2].getD i []]
theorem two_lt {i : Nat} (h : i < 2) : i = 0 ∨ i = 1 := by omega
theorem rRaw_eq (k : Int) (i : Nat) (h : i < 1) : [rRaw k].getD i [] = rowR [⟨0, ⟨1, 1⟩, k, 1, 0, ⟨0, 0⟩⟩] i := by
  obtain rfl : i = 0 := by omega
  show _ = ruleD _
  unfold ruleD
  simp only [List.getD_cons_zero, hi_zero, lo_zero, show hi 1 = 0 from by decide, show lo 1 = 1 from by decide]
  rfl
theorem tRaw_le (k : Int) : DLes (tRaw k) [.sl 1 1 (rowRR [[⟨0, ⟨1, 1⟩, k, 1, 0, ⟨0, 0⟩⟩]])] := by
  refine .cons (dle_sl rfl fun i h => ?_) .nil
  obtain rfl : i = 0 := by omega
  exact .cons (dle_sl rfl fun i h => .of_eq (rRaw_eq k i h)) .nil
theorem ringRaw_le : DLes ringRaw (configD ringK) := by
  refine .cons (dle_sl rfl fun i h => ?_) (.cons (dle_refl _) (.cons dle_emp (.cons dle_emp (.cons (dle_sl rfl fun i h => ?_) .nil))))
  · rcases two_lt h with rfl | rfl
    · refine .cons (dle_sl rfl fun i h => ?_) .nil
      rcases two_lt h with rfl | rfl <;> exact .of_eq rfl
    · refine .cons (dle_sl rfl fun i h => ?_) .nil
      rcases two_lt h with rfl | rfl <;> exact .of_eq rfl
  · rcases two_lt h with rfl | rfl
    · exact tRaw_le 3
    · exact tRaw_le 2
set_option maxRecDepth 100000 in
set_option maxHeartbeats 4000000 in
theorem ring_c : ACalls Try.prog 53 [] (· = [.agg (configD ringK)]) := by
  refine acalls_agg ringRaw_le ?_
  unfold ringRaw tRaw rRaw pRaw iI iU
  refine z11 Try.func53 rfl (by decide +kernel) (by rw [Try.ntmps53]; simp) ?_; rw [Try.ntmps53]; simp only [frOf]
  (repeat (first | refine j0 ?_ | refine q7 rfl ?_ | refine z7 rfl ?_ | refine j6 ?_ | (refine j4 fun K hK => ?_) | (refine x5 (by kernel_rfl) (by kernel_rfl) fun K hK => ?_) | ((first | refine z6 ?_ | refine x6 ?_ | ((first | refine z2 (hK _ ?_) | refine q6 (hK _ _ (j5 (by kernel_rfl)) ?_)); clear hK K)); (first | show AWP _ _ _ _ _ | ((try simp only [q8]); first | show loopQ _ _ _ _ _ _ | show cutQ _ _ _ _ | show AWP _ _ _ _ _))) | ((first | refine x7 [0, 1, 2] rfl ?_ | refine j7 [0, 1, 2] rfl ?_); simp (maxSteps := 2000000) (disch := omega) only [go_sem, seval, hd, hopD, runD]; (repeat (first | refine ⟨by omega, ?_⟩ | refine ⟨True.intro, ?_⟩)))))
  refine x8 ⟨_, ?_, rfl⟩; rw [Try.results53]; simp (disch := omega) only [ResVars, ResVar, ptrLoc, go_sem, seval, hd, hopD, runD]
theorem ringK_small : ringK.small := by
  refine ⟨⟨by decide, ?_⟩, ⟨by decide, by decide⟩, by decide, ?_⟩
  · intro l h
    simp only [ringK, List.mem_cons, List.not_mem_nil, or_false] at h
    rcases h with rfl | rfl <;> decide
  · intro t h
    simp only [ringK, List.mem_cons, List.not_mem_nil, or_false] at h
    rcases h with rfl | rfl
    all_goals
      refine ⟨by decide, fun l h => ?_⟩
      simp only [List.mem_singleton] at h
      subst h; decide
end Go.Proofs.Ytbiildleaelodaa
set_option linter.unusedSimpArgs false
set_option linter.unusedVariables false
namespace Go.Proofs.Ytbiildleaelodaa
open Go.Proofs.Ytbiildleaelodaa.AL
set_option maxRecDepth 100000 in
set_option maxHeartbeats 4000000 in
theorem awake9_c : ACalls Try.prog 35 [] (· = [.d (.v (.bool true))]) := by
  have k0 := ring_c
  have he : stampE ringK ⟨0, 0⟩ 0 = 0 := by decide +kernel
  have k1 := Run_ok ringK ⟨0, 0⟩ 1#128 0 ringK_small he
  have k2 := Run_ok ringK ⟨0, 0⟩ 0#128 0 ringK_small he
  have a1 : (runOf ringK ⟨0, 0⟩ 1#128 0).en = 2 := by decide +kernel
  have a2 : (runOf ringK ⟨0, 0⟩ 1#128 0).an = 1 := by decide +kernel
  have a3 : (runOf ringK ⟨0, 0⟩ 1#128 0).ap = 1 := by decide +kernel
  have a4 : (runOf ringK ⟨0, 0⟩ 1#128 0).hops.length = 2 := by decide +kernel
  have a5 : passW (runOf ringK ⟨0, 0⟩ 1#128 0).hops 1 = true := by decide +kernel
  have a6 : passW (runOf ringK ⟨0, 0⟩ 1#128 0).hops 2 = false := by decide +kernel
  have b1 : (runOf ringK ⟨0, 0⟩ 0#128 0).en = 3 := by decide +kernel
  generalize runOf ringK ⟨0, 0⟩ 1#128 0 = R at *
  generalize runOf ringK ⟨0, 0⟩ 0#128 0 = R2 at *
  have k3 := Passed_c R.en R.an R.ap R.hops 1 (by omega)
  have k4 := Passed_c R.en R.an R.ap R.hops 2 (by omega)
  rw [a5, a1, a2, a3, a4] at k3
  rw [a6, a1, a2, a3, a4] at k4
  unfold runD at k1 k2
  rw [a1, a2, a3, a4] at k1
  rw [b1] at k2
  generalize rowH R.hops = rw1 at *
  generalize rowH R2.hops = rw2 at *
  generalize R2.hops.length = n2 at *
  rw [show hd 1#128 = [.v (.int .u64 0), .v (.int .u64 1)] from by unfold hd; rw [show hi 1#128 = 0 from by decide, show lo 1#128 = 1 from by decide]] at k1
  rw [show hd 0#128 = [.v (.int .u64 0), .v (.int .u64 0)] from by unfold hd; rw [hi0, lo0]] at k2
  have zz : eqI [1, 1] [1, 1] = true := rfl
  clear he
  generalize ringK = K at *
  unfold configD spotD at *
  refine z11 Try.func35 rfl (by decide +kernel) (by rw [Try.ntmps35]; simp) ?_; rw [Try.ntmps35]; simp only [frOf]
  (repeat (first | refine j0 ?_ | refine q7 rfl ?_ | refine z7 rfl ?_ | refine j6 ?_ | (refine j4 fun K hK => ?_) | (refine x5 (by kernel_rfl) (by kernel_rfl) fun K hK => ?_) | ((first | refine z6 ?_ | refine x6 ?_ | ((first | refine z2 (hK _ ?_) | refine q6 (hK _ _ (j5 (by kernel_rfl)) ?_)); clear hK K)); (first | show AWP _ _ _ _ _ | ((try simp only [q8]); first | show loopQ _ _ _ _ _ _ | show cutQ _ _ _ _ | show AWP _ _ _ _ _))) | ((first | refine z10 rfl rfl rfl ?_ | refine x10 rfl rfl rfl ?_); simp (maxSteps := 2000000) (disch := omega) only [go_sem, seval, hd, cb, ruleD, q10, eqty25, zz]; (first | refine ⟨_, k0, ?_⟩ | refine ⟨_, k1, ?_⟩ | refine ⟨_, k2, ?_⟩ | refine ⟨_, k3, ?_⟩ | refine ⟨_, k4, ?_⟩)) | ((first | refine x7 [1, 2, 4] rfl ?_ | refine j7 [1, 2, 4] rfl ?_); simp (maxSteps := 2000000) (disch := omega) only [go_sem, seval, hd, cb, ruleD, q10, eqty25, zz]; (repeat (first | refine ⟨by omega, ?_⟩ | refine ⟨True.intro, ?_⟩)))))
  refine x8 ⟨_, ?_, rfl⟩; rw [Try.results35]; simp (disch := omega) only [ResVars, ResVar, ptrLoc, go_sem, seval, hd, cb, ruleD, q10, eqty25, zz]
end Go.Proofs.Ytbiildleaelodaa
set_option linter.unusedSimpArgs false
set_option linter.unusedVariables false
namespace Go.Proofs.Ytbiildleaelodaa
open Go.Proofs.Ytbiildleaelodaa.AL
theorem edge_notW {t : List (List Port)} {s : Spot} (h : (edgesT t).contains s = false) : edgeT t s < 0 := by
  unfold edgeT
  split
  · decide
  · rename_i h1
    split
    · decide
    · rename_i h2
      split
      · rename_i h3
        exfalso
        have hm : s ∈ edgesT t := edgesTo_mem.2 ⟨s.sw.toNat, s.po.toNat, by omega, by omega, h3, by
          obtain ⟨a, b⟩ := s
          simp only [] at h1 h2 ⊢
          rw [Int.toNat_of_nonneg (by omega), Int.toNat_of_nonneg (by omega)]⟩
        rw [Bool.eq_false_iff] at h
        exact h (by simpa using hm)
      · decide
set_option maxRecDepth 100000 in
set_option maxHeartbeats 4000000 in
theorem WalkRuns_c (c : Config) (s : Spot) (h : BitVec 128) (v : Int) (hc : c.small) (hv : -9223372036854775808 ≤ v ∧ v < 9223372036854775808) :
    ACalls Try.prog 11 [.agg (configD c), .agg (spotD s), .agg (hd h), .d (.v (.int .i64 v))] (· = [.d (.v (.bool true))]) := by
  have k0 := awake9_c
  have k1 := SoundCR_c c hc
  have k2 := EdgeR_c c.tp s hc.tp
  have kz := SameRun_zero
  unfold zeroRun at kz
  by_cases he : stampE c s v = 0
  · have k3 := Run_ok c s h v hc he
    have k4 := RefRun_ok c s h v hc he
    have hl := runOf_len c s h v
    obtain ⟨h1, h2, h3, h4⟩ := stamp_ok he
    obtain ⟨t1, t2⟩ := sound_tenant (sound_parts h1).1 h4
    rw [h1] at k1
    clear he
    generalize edgeT c.tp s = e at *
    generalize runOf c s h v = R at *
    have k5 := SameRun_c R (by omega)
    unfold configD spotD topoD runD at *
    refine z11 Try.func11 rfl (by decide +kernel) (by rw [Try.ntmps11]; simp) ?_; rw [Try.ntmps11]; simp only [frOf]
    (repeat (first | refine j0 ?_ | refine q7 rfl ?_ | refine z7 rfl ?_ | refine j6 ?_ | (refine j4 fun K hK => ?_) | (refine x5 (by kernel_rfl) (by kernel_rfl) fun K hK => ?_) | ((first | refine z6 ?_ | refine x6 ?_ | ((first | refine z2 (hK _ ?_) | refine q6 (hK _ _ (j5 (by kernel_rfl)) ?_)); clear hK K)); (first | show AWP _ _ _ _ _ | ((try simp only [q8]); first | show loopQ _ _ _ _ _ _ | show cutQ _ _ _ _ | show AWP _ _ _ _ _))) | ((first | refine z10 rfl rfl rfl ?_ | refine x10 rfl rfl rfl ?_); simp (maxSteps := 2000000) (disch := omega) only [go_sem, seval, hd, cb, ruleD, q10, eqty25]; (first | refine ⟨_, k0, ?_⟩ | refine ⟨_, k1, ?_⟩ | refine ⟨_, k2, ?_⟩ | refine ⟨_, k3, ?_⟩ | refine ⟨_, k4, ?_⟩ | refine ⟨_, k5, ?_⟩)) | ((first | refine x7 [9] rfl ?_ | refine j7 [9] rfl ?_); simp (maxSteps := 2000000) (disch := omega) only [go_sem, seval, hd, cb, ruleD, q10, eqty25]; (repeat (first | refine ⟨by omega, ?_⟩ | refine ⟨True.intro, ?_⟩)))))
    refine x8 ⟨_, ?_, rfl⟩; rw [Try.results11]; simp (disch := omega) only [ResVars, ResVar, ptrLoc, go_sem, seval, hd, cb, ruleD, q10, eqty25]
  · have k3 := Run_bad c s h v hc hv he
    unfold zeroRun at k3
    have hst : stampE c s v = if soundC c ≠ 0 then soundC c else if v < 0 ∨ 255 < v then 4 else if edgesHas c.tp s = false then 7 else 0 := rfl
    by_cases h1 : soundC c = 0
    · rw [if_neg (by omega)] at hst
      rw [h1] at k1
      by_cases h2 : v < 0 ∨ 255 < v
      · rw [if_pos h2] at hst
        rw [hst] at k3
        unfold configD spotD topoD at *
        by_cases h3 : v < 0
        all_goals
          refine z11 Try.func11 rfl (by decide +kernel) (by rw [Try.ntmps11]; simp) ?_; rw [Try.ntmps11]; simp only [frOf]
          (repeat (first | refine j0 ?_ | refine q7 rfl ?_ | refine z7 rfl ?_ | refine j6 ?_ | (refine j4 fun K hK => ?_) | (refine x5 (by kernel_rfl) (by kernel_rfl) fun K hK => ?_) | ((first | refine z6 ?_ | refine x6 ?_ | ((first | refine z2 (hK _ ?_) | refine q6 (hK _ _ (j5 (by kernel_rfl)) ?_)); clear hK K)); (first | show AWP _ _ _ _ _ | ((try simp only [q8]); first | show loopQ _ _ _ _ _ _ | show cutQ _ _ _ _ | show AWP _ _ _ _ _))) | ((first | refine z10 rfl rfl rfl ?_ | refine x10 rfl rfl rfl ?_); simp (maxSteps := 2000000) (disch := omega) only [go_sem, seval, hd, cb, ruleD, q10, eqty25]; (first | refine ⟨_, k0, ?_⟩ | refine ⟨_, k1, ?_⟩ | refine ⟨_, k2, ?_⟩ | refine ⟨_, k3, ?_⟩ | refine ⟨_, kz, ?_⟩)) | ((first | refine x7 [9] rfl ?_ | refine j7 [9] rfl ?_); simp (maxSteps := 2000000) (disch := omega) only [go_sem, seval, hd, cb, ruleD, q10, eqty25]; (repeat (first | refine ⟨by omega, ?_⟩ | refine ⟨True.intro, ?_⟩)))))
          refine x8 ⟨_, ?_, rfl⟩; rw [Try.results11]; simp (disch := omega) only [ResVars, ResVar, ptrLoc, go_sem, seval, hd, cb, ruleD, q10, eqty25]
      · rw [if_neg h2] at hst
        cases hq : edgesHas c.tp s
        · rw [if_pos hq] at hst
          rw [hst] at k3
          have hn := edge_notW (t := c.tp) (s := s) hq
          generalize edgeT c.tp s = e at k2 hn
          unfold configD spotD topoD at *
          refine z11 Try.func11 rfl (by decide +kernel) (by rw [Try.ntmps11]; simp) ?_; rw [Try.ntmps11]; simp only [frOf]
          (repeat (first | refine j0 ?_ | refine q7 rfl ?_ | refine z7 rfl ?_ | refine j6 ?_ | (refine j4 fun K hK => ?_) | (refine x5 (by kernel_rfl) (by kernel_rfl) fun K hK => ?_) | ((first | refine z6 ?_ | refine x6 ?_ | ((first | refine z2 (hK _ ?_) | refine q6 (hK _ _ (j5 (by kernel_rfl)) ?_)); clear hK K)); (first | show AWP _ _ _ _ _ | ((try simp only [q8]); first | show loopQ _ _ _ _ _ _ | show cutQ _ _ _ _ | show AWP _ _ _ _ _))) | ((first | refine z10 rfl rfl rfl ?_ | refine x10 rfl rfl rfl ?_); simp (maxSteps := 2000000) (disch := omega) only [go_sem, seval, hd, cb, ruleD, q10, eqty25]; (first | refine ⟨_, k0, ?_⟩ | refine ⟨_, k1, ?_⟩ | refine ⟨_, k2, ?_⟩ | refine ⟨_, k3, ?_⟩ | refine ⟨_, kz, ?_⟩)) | ((first | refine x7 [9] rfl ?_ | refine j7 [9] rfl ?_); simp (maxSteps := 2000000) (disch := omega) only [go_sem, seval, hd, cb, ruleD, q10, eqty25]; (repeat (first | refine ⟨by omega, ?_⟩ | refine ⟨True.intro, ?_⟩)))))
          refine x8 ⟨_, ?_, rfl⟩; rw [Try.results11]; simp (disch := omega) only [ResVars, ResVar, ptrLoc, go_sem, seval, hd, cb, ruleD, q10, eqty25]
        · rw [if_neg (by rw [hq]; decide)] at hst
          exact absurd hst he
    · rw [if_pos h1] at hst
      rw [hst] at k3
      have q : (soundC c != 0) = true := ine_tt h1
      have q2 : (soundC c == soundC c) = true := ieq_tt rfl
      clear hst he
      generalize soundC c = e at *
      unfold configD spotD topoD at *
      refine z11 Try.func11 rfl (by decide +kernel) (by rw [Try.ntmps11]; simp) ?_; rw [Try.ntmps11]; simp only [frOf]
      (repeat (first | refine j0 ?_ | refine q7 rfl ?_ | refine z7 rfl ?_ | refine j6 ?_ | (refine j4 fun K hK => ?_) | (refine x5 (by kernel_rfl) (by kernel_rfl) fun K hK => ?_) | ((first | refine z6 ?_ | refine x6 ?_ | ((first | refine z2 (hK _ ?_) | refine q6 (hK _ _ (j5 (by kernel_rfl)) ?_)); clear hK K)); (first | show AWP _ _ _ _ _ | ((try simp only [q8]); first | show loopQ _ _ _ _ _ _ | show cutQ _ _ _ _ | show AWP _ _ _ _ _))) | ((first | refine z10 rfl rfl rfl ?_ | refine x10 rfl rfl rfl ?_); simp (maxSteps := 2000000) (disch := omega) only [go_sem, seval, hd, cb, ruleD, q10, eqty25, q, q2]; (first | refine ⟨_, k0, ?_⟩ | refine ⟨_, k1, ?_⟩ | refine ⟨_, k2, ?_⟩ | refine ⟨_, k3, ?_⟩ | refine ⟨_, kz, ?_⟩)) | ((first | refine x7 [9] rfl ?_ | refine j7 [9] rfl ?_); simp (maxSteps := 2000000) (disch := omega) only [go_sem, seval, hd, cb, ruleD, q10, eqty25, q, q2]; (repeat (first | refine ⟨by omega, ?_⟩ | refine ⟨True.intro, ?_⟩)))))
      refine x8 ⟨_, ?_, rfl⟩; rw [Try.results11]; simp (disch := omega) only [ResVars, ResVar, ptrLoc, go_sem, seval, hd, cb, ruleD, q10, eqty25, q, q2]
end Go.Proofs.Ytbiildleaelodaa
