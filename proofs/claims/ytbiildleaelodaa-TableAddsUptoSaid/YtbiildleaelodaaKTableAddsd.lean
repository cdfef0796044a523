/- Part 4 of a proof: lemmas beneath the theorem that the last text bears. Conditions: none. -/
import Derived.Test.YtbiildleaelodaaKTableAddsc
import Derived.Shelf.Spec.SlicesGrow
set_option linter.unusedSimpArgs false
set_option linter.unusedVariables false
namespace Go.Proofs.Ytbiildleaelodaa
open Go.Proofs.Ytbiildleaelodaa.AL
structure PI (key : Nat → Int) (a b : Nat) (x y : Nat → Nat) (i q : Nat) : Prop where
  h1 : a + 1 ≤ i
  h2 : i ≤ q
  h3 : q ≤ b
  pe : PE a b x y
  lo : ∀ k, a + 1 ≤ k → k < i → key (y k) < key (y a)
  hi : ∀ k, q ≤ k → k < b → key (y a) ≤ key (y k)
theorem PI.start {key : Nat → Int} {a b p : Nat} {x : Nat → Nat} (h : a < b) (h1 : a ≤ p) (h2 : p < b) : PI key a b x (swp x a p) (a + 1) b :=
  ⟨Nat.le_refl _, h, Nat.le_refl _, PE.swp (Nat.le_refl _) h h1 h2, fun k k1 k2 => by omega, fun k k1 k2 => by omega⟩
theorem PI.up {key : Nat → Int} {a b i q : Nat} {x y : Nat → Nat} (h : PI key a b x y i q) (hl : i < q) (hk : key (y i) < key (y a)) : PI key a b x y (i + 1) q :=
  ⟨by have := h.h1; omega, hl, h.h3, h.pe, fun k k1 k2 => by
    by_cases e : k = i
    · subst e; exact hk
    · exact h.lo k k1 (by omega), h.hi⟩
theorem PI.down {key : Nat → Int} {a b i q : Nat} {x y : Nat → Nat} (h : PI key a b x y i (q + 1)) (hl : i ≤ q) (hk : ¬ key (y q) < key (y a)) : PI key a b x y i q :=
  ⟨h.h1, hl, by have := h.h3; omega, h.pe, h.lo, fun k k1 k2 => by
    by_cases e : k = q
    · subst e; omega
    · exact h.hi k (by omega) k2⟩
theorem PI.swap {key : Nat → Int} {a b i q : Nat} {x y : Nat → Nat} (h : PI key a b x y i (q + 1)) (hl : i ≤ q) (hi : ¬ key (y i) < key (y a)) (hq : key (y q) < key (y a)) : i + 1 ≤ q ∧ PI key a b x (swp y i q) (i + 1) q := by
  have hne : i ≠ q := fun e => by subst e; exact hi hq
  have g1 := h.h1; have g3 := h.h3
  have ea : swp y i q a = y a := swp_o _ (by omega) (by omega)
  refine ⟨by omega, by omega, by omega, by omega, h.pe.trans (PE.swp (by omega) (by omega) (by omega) (by omega)), fun k k1 k2 => ?_, fun k k1 k2 => ?_⟩
  · rw [ea]
    by_cases e : k = i
    · subst e; rw [swp_l]; exact hq
    · rw [swp_o _ e (by omega)]; exact h.lo k k1 (by omega)
  · rw [ea]
    by_cases e : k = q
    · subst e; rw [swp_r]; omega
    · rw [swp_o _ (by omega) e]; exact h.hi k (by omega) k2
theorem PI.done {key : Nat → Int} {a b q : Nat} {x y : Nat → Nat} (h : PI key a b x y (q + 1) (q + 1)) : a ≤ q ∧ q < b ∧ PE a b x (swp y q a) ∧ Prt key a q b (swp y q a) := by
  have g1 := h.h1; have g3 := h.h3
  have em : swp y q a q = y a := swp_l _ _ _
  refine ⟨by omega, by omega, h.pe.trans (PE.swp (by omega) (by omega) (by omega) (by omega)), ⟨fun k k1 k2 => ?_, fun k k1 k2 => ?_⟩⟩
  · rw [em]
    by_cases e : k = a
    · subst e; rw [swp_r]; exact Int.le_of_lt (h.lo q (by omega) (by omega))
    · rw [swp_o _ (by omega) e]; exact Int.le_of_lt (h.lo k (by omega) (by omega))
  · rw [em, swp_o _ (by omega) (by omega)]
    exact h.hi k (by omega) k2
def ptI (key : Nat → Int) (x y : Nat → Nat) (n gen a b q : Nat) (g : FuncId) (o : PV) (i : {i : Nat // PI key a b x y i q}) : ASt :=
  ⟨[(13, .p (.d (.v (.int .i64 ((q : Int) - 1))))), (12, .p (.d (.v (.int .i64 (i.val : Int))))), (4, .p (.fn (.func g) [o] [])), (1, .p (.d (.v (.int .i64 (a : Int))))), (0, .ow 1000 gen 1 n)],
   [(1000, .own 3 1 n gen (rowN y))]⟩
def ptJ (key : Nat → Int) (x y : Nat → Nat) (n gen a b i : Nat) (g : FuncId) (o : PV) (q : {q : Nat // PI key a b x y i q ∧ (i < q → ¬ key (y i) < key (y a))}) : ASt :=
  ⟨[(13, .p (.d (.v (.int .i64 ((q.val : Int) - 1))))), (12, .p (.d (.v (.int .i64 (i : Int))))), (4, .p (.fn (.func g) [o] [])), (1, .p (.d (.v (.int .i64 (a : Int))))), (0, .ow 1000 gen 1 n)],
   [(1000, .own 3 1 n gen (rowN y))]⟩
def ptK (key : Nat → Int) (x : Nat → Nat) (n gen a b : Nat) (g : FuncId) (o : PV) (s : {s : Nat × Nat × (Nat → Nat) // PI key a b x s.2.2 s.1 s.2.1}) : ASt :=
  ⟨[(13, .p (.d (.v (.int .i64 ((s.val.2.1 : Int) - 1))))), (12, .p (.d (.v (.int .i64 (s.val.1 : Int))))), (4, .p (.fn (.func g) [o] [])), (1, .p (.d (.v (.int .i64 (a : Int))))), (0, .ow 1000 gen 1 n)],
   [(1000, .own 3 1 n gen (rowN s.val.2.2))]⟩
set_option maxRecDepth 100000 in
set_option maxHeartbeats 4000000 in
theorem partition_c {key : Nat → Int} {c : Nat → Nat → Int} {g : FuncId} {o : PV} {N : Nat} (hc : CmpN Try.prog g o N key c) (x : Nat → Nat) (n gen a b p : Nat) (hab : a + 12 < b) (h1 : a ≤ p) (h2 : p < b) (hb : b ≤ n) (hn : n ≤ 1099511627776) (hx : Dom n N x) :
    MCalls Try.prog 117 [.ow 1000 gen 1 n, .p (.d (.v (.int .i64 (a : Int)))), .p (.d (.v (.int .i64 (b : Int)))), .p (.d (.v (.int .i64 (p : Int)))), .p (.fn (.func g) [o] [])] [(1000, .own 3 1 n gen (rowN x))]
      (fun rs M => ∃ r : {r : Nat × Bool × (Nat → Nat) // a ≤ r.1 ∧ r.1 < b ∧ PE a b x r.2.2 ∧ Prt key a r.1 b r.2.2}, rs = [.p (.d (.v (.int .i64 (r.val.1 : Int)))), .p (.d (.v (.bool r.val.2.1)))] ∧ M = [(1000, .own 3 1 n gen (rowN r.val.2.2))]) := by
  have r1 := rowN_at x a
  have r2 := rowN_at x p
  refine mcalls_of_awp Try.func117 rfl (by decide +kernel) (by rw [Try.ntmps117]; simp) (fun l X h => by simp only [AL.look] at h; (repeat' split at h); all_goals first | omega | cases h) ?_; rw [Try.ntmps117]; simp only [frA]
  (repeat ((fail_if_success (show AWP _ _ (.region 2 _ _) _ _)); first | refine j0 ?_ | refine q7 rfl ?_ | refine z7 rfl ?_ | refine x6 ?_ | (refine z2 fun K hK => ?_) | (refine x4 (by kernel_rfl) (by kernel_rfl) fun K hK => ?_) | ((first | refine j5 ?_ | refine q6 ?_ | ((first | refine z1 (hK _ ?_) | refine q5 (hK _ _ (j4 (by kernel_rfl)) ?_)); clear hK K)); (first | show AWP _ _ _ _ _ | ((try simp only [q8]); first | show loopQ _ _ _ _ _ _ | show cutQ _ _ _ _ | show AWP _ _ _ _ _))) | ((first | refine x7 [] rfl ?_ | refine j7 [] rfl ?_); simp (maxSteps := 2000000) (disch := omega) only [go_sem, seval, pnP, pnM, pnP1, pnM1, r1, r2]; (repeat (first | refine ⟨by omega, ?_⟩ | refine ⟨True.intro, ?_⟩)))))
  refine awp_weak (A' := ⟨[(4, .p (.fn (.func g) [o] [])), (2, .p (.d (.v (.int .i64 (b : Int))))), (1, .p (.d (.v (.int .i64 (a : Int))))), (0, .ow 1000 gen 1 n)], [(1000, .own 3 1 n gen (rowN (swp x a p)))]⟩) ?_ ?_
  · refine Weak.list ?_ ?_; (all_goals simp (disch := omega) only [AllF, AllL, x10, j10, z10, exists_eq_left', Option.some.injEq, go_sem, seval, pnP, pnM, pnP1, pnM1]); (all_goals (repeat' (with_reducible apply And.intro))); (all_goals try (first | exact z6 rfl | (refine q11 ?_; omega) | (refine z6 ?_; simp; done)))
    exact lle_own rfl rfl (fun k _ => putN_two x a p k)
  have hs0 := PI.start (key := key) (x := x) (show a < b by omega) h1 h2
  generalize hy : swp x a p = y at hs0
  clear hy r1 r2
  have dy := hx.pe hs0.pe (by omega) hb
  have ra := rowN_at y a
  (repeat (first | refine j0 ?_ | refine q7 rfl ?_ | refine z7 rfl ?_ | refine x6 ?_ | (refine z2 fun K hK => ?_) | (refine x4 (by kernel_rfl) (by kernel_rfl) fun K hK => ?_) | ((first | refine j5 ?_ | refine q6 ?_ | ((first | refine z1 (hK _ ?_) | refine q5 (hK _ _ (j4 (by kernel_rfl)) ?_)); clear hK K)); (first | show AWP _ _ _ _ _ | ((try simp only [q8]); first | show loopQ _ _ _ _ _ _ | show cutQ _ _ _ _ | show AWP _ _ _ _ _))) | ((first | refine x7 [] rfl ?_ | refine j7 [] rfl ?_); simp (maxSteps := 2000000) (disch := omega) only [go_sem, seval, pnP, pnM, pnP1, pnM1]; (repeat (first | refine ⟨by omega, ?_⟩ | refine ⟨True.intro, ?_⟩)))))
  refine awp_blk (fun i : {i : Nat // PI key a b x y i b ∧ (i < b → ¬ key (y i) < key (y a))} => ptI key x y n gen a b b g o ⟨i.val, i.property.1⟩) ?_ ?_
  · refine awp_loop (ptI key x y n gen a b b g o) (fun s => b - s.val) ⟨a + 1, hs0⟩ ?_ (fun s => ?_)
    · unfold ptI
      refine Weak.list ?_ ?_; (all_goals simp (disch := omega) only [AllF, AllL, x10, j10, z10, exists_eq_left', Option.some.injEq, go_sem, seval, pnP, pnM, pnP1, pnM1]); (all_goals (repeat' (with_reducible apply And.intro))); (all_goals try (first | exact z6 rfl | (refine q11 ?_; omega) | (refine z6 ?_; simp; done)))
    obtain ⟨i, hi⟩ := s
    unfold ptI
    have g1 := hi.h1; have g2 := hi.h2
    by_cases h : i < b
    · have r1 := rowN_at y i
      have cc := hc.call (y i) (y a) (dy.lt _ (by omega)) (dy.lt _ (by omega))
      have cl := hc.lt (y i) (y a) (dy.lt _ (by omega)) (dy.lt _ (by omega))
      generalize c (y i) (y a) = c0 at cc cl
      by_cases hlt : c0 < 0
      · (repeat (first | refine j0 ?_ | refine q7 rfl ?_ | refine z7 rfl ?_ | refine x6 ?_ | (refine z2 fun K hK => ?_) | (refine x4 (by kernel_rfl) (by kernel_rfl) fun K hK => ?_) | ((first | refine j5 ?_ | refine q6 ?_ | ((first | refine z1 (hK _ ?_) | refine q5 (hK _ _ (j4 (by kernel_rfl)) ?_)); clear hK K)); (first | show AWP _ _ _ _ _ | ((try simp only [q8]); first | show loopQ _ _ _ _ _ _ | show cutQ _ _ _ _ | show AWP _ _ _ _ _))) | ((first | refine j9 rfl rfl rfl ?_ | refine q10 rfl rfl rfl ?_); simp (maxSteps := 2000000) (disch := omega) only [go_sem, seval, pnP, pnM, pnP1, pnM1, r1, ra]; (first | refine ⟨_, cc, ?_⟩)) | ((first | refine x7 [] rfl ?_ | refine j7 [] rfl ?_); simp (maxSteps := 2000000) (disch := omega) only [go_sem, seval, pnP, pnM, pnP1, pnM1, r1, ra]; (repeat (first | refine ⟨by omega, ?_⟩ | refine ⟨True.intro, ?_⟩)))))
        refine ⟨⟨i + 1, hi.up h (cl.1 hlt)⟩, by simp only []; omega, ?_⟩
        refine Weak.list ?_ ?_; (all_goals simp (disch := omega) only [AllF, AllL, x10, j10, z10, exists_eq_left', Option.some.injEq, go_sem, seval, pnP, pnM, pnP1, pnM1, r1, ra]); (all_goals (repeat' (with_reducible apply And.intro))); (all_goals try (first | exact z6 rfl | (refine q11 ?_; omega) | (refine z6 ?_; simp; done)))
      · (repeat (first | refine j0 ?_ | refine q7 rfl ?_ | refine z7 rfl ?_ | refine x6 ?_ | (refine z2 fun K hK => ?_) | (refine x4 (by kernel_rfl) (by kernel_rfl) fun K hK => ?_) | ((first | refine j5 ?_ | refine q6 ?_ | ((first | refine z1 (hK _ ?_) | refine q5 (hK _ _ (j4 (by kernel_rfl)) ?_)); clear hK K)); (first | show AWP _ _ _ _ _ | ((try simp only [q8]); first | show loopQ _ _ _ _ _ _ | show cutQ _ _ _ _ | show AWP _ _ _ _ _))) | ((first | refine j9 rfl rfl rfl ?_ | refine q10 rfl rfl rfl ?_); simp (maxSteps := 2000000) (disch := omega) only [go_sem, seval, pnP, pnM, pnP1, pnM1, r1, ra]; (first | refine ⟨_, cc, ?_⟩)) | ((first | refine x7 [] rfl ?_ | refine j7 [] rfl ?_); simp (maxSteps := 2000000) (disch := omega) only [go_sem, seval, pnP, pnM, pnP1, pnM1, r1, ra]; (repeat (first | refine ⟨by omega, ?_⟩ | refine ⟨True.intro, ?_⟩)))))
        (show cutQ _ _ .normal _); refine cut_n (⟨i, hi, fun _ h => hlt (cl.2 h)⟩) ?_
        refine Weak.list ?_ ?_; (all_goals simp (disch := omega) only [AllF, AllL, x10, j10, z10, exists_eq_left', Option.some.injEq, go_sem, seval, pnP, pnM, pnP1, pnM1, r1, ra]); (all_goals (repeat' (with_reducible apply And.intro))); (all_goals try (first | exact z6 rfl | (refine q11 ?_; omega) | (refine z6 ?_; simp; done)))
    · (repeat (first | refine j0 ?_ | refine q7 rfl ?_ | refine z7 rfl ?_ | refine x6 ?_ | (refine z2 fun K hK => ?_) | (refine x4 (by kernel_rfl) (by kernel_rfl) fun K hK => ?_) | ((first | refine j5 ?_ | refine q6 ?_ | ((first | refine z1 (hK _ ?_) | refine q5 (hK _ _ (j4 (by kernel_rfl)) ?_)); clear hK K)); (first | show AWP _ _ _ _ _ | ((try simp only [q8]); first | show loopQ _ _ _ _ _ _ | show cutQ _ _ _ _ | show AWP _ _ _ _ _))) | ((first | refine x7 [] rfl ?_ | refine j7 [] rfl ?_); simp (maxSteps := 2000000) (disch := omega) only [go_sem, seval, pnP, pnM, pnP1, pnM1]; (repeat (first | refine ⟨by omega, ?_⟩ | refine ⟨True.intro, ?_⟩)))))
      (show cutQ _ _ .normal _); refine cut_n (⟨i, hi, fun h' => absurd h' h⟩) ?_
      refine Weak.list ?_ ?_; (all_goals simp (disch := omega) only [AllF, AllL, x10, j10, z10, exists_eq_left', Option.some.injEq, go_sem, seval, pnP, pnM, pnP1, pnM1]); (all_goals (repeat' (with_reducible apply And.intro))); (all_goals try (first | exact z6 rfl | (refine q11 ?_; omega) | (refine z6 ?_; simp; done)))
  rintro ⟨i, hi, hiq⟩
  unfold ptI
  (repeat (first | refine j0 ?_ | refine q7 rfl ?_ | refine z7 rfl ?_ | refine x6 ?_ | (refine z2 fun K hK => ?_) | (refine x4 (by kernel_rfl) (by kernel_rfl) fun K hK => ?_) | ((first | refine j5 ?_ | refine q6 ?_ | ((first | refine z1 (hK _ ?_) | refine q5 (hK _ _ (j4 (by kernel_rfl)) ?_)); clear hK K)); (first | show AWP _ _ _ _ _ | ((try simp only [q8]); first | show loopQ _ _ _ _ _ _ | show cutQ _ _ _ _ | show AWP _ _ _ _ _))) | ((first | refine x7 [] rfl ?_ | refine j7 [] rfl ?_); simp (maxSteps := 2000000) (disch := omega) only [go_sem, seval, pnP, pnM, pnP1, pnM1]; (repeat (first | refine ⟨by omega, ?_⟩ | refine ⟨True.intro, ?_⟩)))))
  refine awp_blk (fun q : {q : Nat // PI key a b x y i q ∧ (i < q → ¬ key (y i) < key (y a)) ∧ (i < q → key (y (q - 1)) < key (y a))} => ptJ key x y n gen a b i g o ⟨q.val, q.property.1, q.property.2.1⟩) ?_ ?_
  · refine awp_loop (ptJ key x y n gen a b i g o) (fun s => s.val) ⟨b, hi, hiq⟩ ?_ (fun s => ?_)
    · unfold ptJ
      refine Weak.list ?_ ?_; (all_goals simp (disch := omega) only [AllF, AllL, x10, j10, z10, exists_eq_left', Option.some.injEq, go_sem, seval, pnP, pnM, pnP1, pnM1]); (all_goals (repeat' (with_reducible apply And.intro))); (all_goals try (first | exact z6 rfl | (refine q11 ?_; omega) | (refine z6 ?_; simp; done)))
    obtain ⟨q, hq, hq2⟩ := s
    unfold ptJ
    have g1 := hq.h1; have g2 := hq.h2; have g3 := hq.h3
    by_cases h : i < q
    · obtain ⟨q, rfl⟩ : ∃ k, q = k + 1 := ⟨q - 1, by omega⟩
      have r1 := rowN_at y q
      have cc := hc.call (y q) (y a) (dy.lt _ (by omega)) (dy.lt _ (by omega))
      have cl := hc.lt (y q) (y a) (dy.lt _ (by omega)) (dy.lt _ (by omega))
      generalize c (y q) (y a) = c0 at cc cl
      by_cases hlt : c0 < 0
      · (repeat (first | refine j0 ?_ | refine q7 rfl ?_ | refine z7 rfl ?_ | refine x6 ?_ | (refine z2 fun K hK => ?_) | (refine x4 (by kernel_rfl) (by kernel_rfl) fun K hK => ?_) | ((first | refine j5 ?_ | refine q6 ?_ | ((first | refine z1 (hK _ ?_) | refine q5 (hK _ _ (j4 (by kernel_rfl)) ?_)); clear hK K)); (first | show AWP _ _ _ _ _ | ((try simp only [q8]); first | show loopQ _ _ _ _ _ _ | show cutQ _ _ _ _ | show AWP _ _ _ _ _))) | ((first | refine j9 rfl rfl rfl ?_ | refine q10 rfl rfl rfl ?_); simp (maxSteps := 2000000) (disch := omega) only [go_sem, seval, pnP, pnM, pnP1, pnM1, r1, ra]; (first | refine ⟨_, cc, ?_⟩)) | ((first | refine x7 [] rfl ?_ | refine j7 [] rfl ?_); simp (maxSteps := 2000000) (disch := omega) only [go_sem, seval, pnP, pnM, pnP1, pnM1, r1, ra]; (repeat (first | refine ⟨by omega, ?_⟩ | refine ⟨True.intro, ?_⟩)))))
        (show cutQ _ _ .normal _); refine cut_n (⟨q + 1, hq, hq2, fun _ => cl.1 hlt⟩) ?_
        refine Weak.list ?_ ?_; (all_goals simp (disch := omega) only [AllF, AllL, x10, j10, z10, exists_eq_left', Option.some.injEq, go_sem, seval, pnP, pnM, pnP1, pnM1, r1, ra]); (all_goals (repeat' (with_reducible apply And.intro))); (all_goals try (first | exact z6 rfl | (refine q11 ?_; omega) | (refine z6 ?_; simp; done)))
      · (repeat (first | refine j0 ?_ | refine q7 rfl ?_ | refine z7 rfl ?_ | refine x6 ?_ | (refine z2 fun K hK => ?_) | (refine x4 (by kernel_rfl) (by kernel_rfl) fun K hK => ?_) | ((first | refine j5 ?_ | refine q6 ?_ | ((first | refine z1 (hK _ ?_) | refine q5 (hK _ _ (j4 (by kernel_rfl)) ?_)); clear hK K)); (first | show AWP _ _ _ _ _ | ((try simp only [q8]); first | show loopQ _ _ _ _ _ _ | show cutQ _ _ _ _ | show AWP _ _ _ _ _))) | ((first | refine j9 rfl rfl rfl ?_ | refine q10 rfl rfl rfl ?_); simp (maxSteps := 2000000) (disch := omega) only [go_sem, seval, pnP, pnM, pnP1, pnM1, r1, ra]; (first | refine ⟨_, cc, ?_⟩)) | ((first | refine x7 [] rfl ?_ | refine j7 [] rfl ?_); simp (maxSteps := 2000000) (disch := omega) only [go_sem, seval, pnP, pnM, pnP1, pnM1, r1, ra]; (repeat (first | refine ⟨by omega, ?_⟩ | refine ⟨True.intro, ?_⟩)))))
        refine ⟨⟨q, hq.down (by omega) (fun e => hlt (cl.2 e)), fun h' => hq2 h⟩, by simp only []; omega, ?_⟩
        refine Weak.list ?_ ?_; (all_goals simp (disch := omega) only [AllF, AllL, x10, j10, z10, exists_eq_left', Option.some.injEq, go_sem, seval, pnP, pnM, pnP1, pnM1, r1, ra]); (all_goals (repeat' (with_reducible apply And.intro))); (all_goals try (first | exact z6 rfl | (refine q11 ?_; omega) | (refine z6 ?_; simp; done)))
    · (repeat (first | refine j0 ?_ | refine q7 rfl ?_ | refine z7 rfl ?_ | refine x6 ?_ | (refine z2 fun K hK => ?_) | (refine x4 (by kernel_rfl) (by kernel_rfl) fun K hK => ?_) | ((first | refine j5 ?_ | refine q6 ?_ | ((first | refine z1 (hK _ ?_) | refine q5 (hK _ _ (j4 (by kernel_rfl)) ?_)); clear hK K)); (first | show AWP _ _ _ _ _ | ((try simp only [q8]); first | show loopQ _ _ _ _ _ _ | show cutQ _ _ _ _ | show AWP _ _ _ _ _))) | ((first | refine x7 [] rfl ?_ | refine j7 [] rfl ?_); simp (maxSteps := 2000000) (disch := omega) only [go_sem, seval, pnP, pnM, pnP1, pnM1]; (repeat (first | refine ⟨by omega, ?_⟩ | refine ⟨True.intro, ?_⟩)))))
      (show cutQ _ _ .normal _); refine cut_n (⟨q, hq, hq2, fun h' => absurd h' h⟩) ?_
      refine Weak.list ?_ ?_; (all_goals simp (disch := omega) only [AllF, AllL, x10, j10, z10, exists_eq_left', Option.some.injEq, go_sem, seval, pnP, pnM, pnP1, pnM1]); (all_goals (repeat' (with_reducible apply And.intro))); (all_goals try (first | exact z6 rfl | (refine q11 ?_; omega) | (refine z6 ?_; simp; done)))
  rintro ⟨q, hq, hq2, hq3⟩
  unfold ptJ
  have g1 := hq.h1; have g2 := hq.h2; have g3 := hq.h3
  by_cases h : i = q
  · subst h
    obtain ⟨i, rfl⟩ : ∃ k, i = k + 1 := ⟨i - 1, by omega⟩
    have r1 := rowN_at y i
    obtain ⟨d1, d2, d3, d4⟩ := hq.done
    (repeat ((fail_if_success (show AWP _ _ (.region 9 _ _) _ _)); first | refine j0 ?_ | refine q7 rfl ?_ | refine z7 rfl ?_ | refine x6 ?_ | (refine z2 fun K hK => ?_) | (refine x4 (by kernel_rfl) (by kernel_rfl) fun K hK => ?_) | ((first | refine j5 ?_ | refine q6 ?_ | ((first | refine z1 (hK _ ?_) | refine q5 (hK _ _ (j4 (by kernel_rfl)) ?_)); clear hK K)); (first | show AWP _ _ _ _ _ | ((try simp only [q8]); first | show loopQ _ _ _ _ _ _ | show cutQ _ _ _ _ | show AWP _ _ _ _ _))) | ((first | refine x7 [] rfl ?_ | refine j7 [] rfl ?_); simp (maxSteps := 2000000) (disch := omega) only [go_sem, seval, pnP, pnM, pnP1, pnM1, r1, ra]; (repeat (first | refine ⟨by omega, ?_⟩ | refine ⟨True.intro, ?_⟩)))))
    refine awp_weak (A' := ⟨[(13, .p (.d (.v (.int .i64 (i : Int)))))], [(1000, .own 3 1 n gen (rowN (swp y i a)))]⟩) ?_ ?_
    · refine Weak.list ?_ ?_; (all_goals simp (disch := omega) only [AllF, AllL, x10, j10, z10, exists_eq_left', Option.some.injEq, go_sem, seval, pnP, pnM, pnP1, pnM1, r1, ra]); (all_goals (repeat' (with_reducible apply And.intro))); (all_goals try (first | exact z6 rfl | (refine q11 ?_; omega) | (refine z6 ?_; simp; done)))
      exact lle_own rfl rfl (fun k _ => putN_two y i a k)
    (repeat (first | refine j0 ?_ | refine q7 rfl ?_ | refine z7 rfl ?_ | refine x6 ?_ | (refine z2 fun K hK => ?_) | (refine x4 (by kernel_rfl) (by kernel_rfl) fun K hK => ?_) | ((first | refine j5 ?_ | refine q6 ?_ | ((first | refine z1 (hK _ ?_) | refine q5 (hK _ _ (j4 (by kernel_rfl)) ?_)); clear hK K)); (first | show AWP _ _ _ _ _ | ((try simp only [q8]); first | show loopQ _ _ _ _ _ _ | show cutQ _ _ _ _ | show AWP _ _ _ _ _))) | ((first | refine x7 [] rfl ?_ | refine j7 [] rfl ?_); simp (maxSteps := 2000000) (disch := omega) only [go_sem, seval, pnP, pnM, pnP1, pnM1]; (repeat (first | refine ⟨by omega, ?_⟩ | refine ⟨True.intro, ?_⟩)))))
    exact x9 (retM_of [_, _] [(1000, _)] ⟨rfl, rfl, trivial⟩ (by simp [AL.look] <;> first | rfl | exact ⟨rfl, rfl⟩) ⟨⟨(i, true, swp y i a), d1, d2, d3, d4⟩, rfl, rfl⟩)
  · obtain ⟨q, rfl⟩ : ∃ k, q = k + 1 := ⟨q - 1, by omega⟩
    rw [Nat.add_sub_cancel] at hq3
    obtain ⟨s1, s2⟩ := hq.swap (by omega) (hq2 (by omega)) (hq3 (by omega))
    have r1 := rowN_at y i
    have r2 := rowN_at y q
    (repeat ((fail_if_success (show AWP _ _ (.region 11 _ _) _ _)); first | refine j0 ?_ | refine q7 rfl ?_ | refine z7 rfl ?_ | refine x6 ?_ | (refine z2 fun K hK => ?_) | (refine x4 (by kernel_rfl) (by kernel_rfl) fun K hK => ?_) | ((first | refine j5 ?_ | refine q6 ?_ | ((first | refine z1 (hK _ ?_) | refine q5 (hK _ _ (j4 (by kernel_rfl)) ?_)); clear hK K)); (first | show AWP _ _ _ _ _ | ((try simp only [q8]); first | show loopQ _ _ _ _ _ _ | show cutQ _ _ _ _ | show AWP _ _ _ _ _))) | ((first | refine x7 [] rfl ?_ | refine j7 [] rfl ?_); simp (maxSteps := 2000000) (disch := omega) only [go_sem, seval, pnP, pnM, pnP1, pnM1, r1, r2]; (repeat (first | refine ⟨by omega, ?_⟩ | refine ⟨True.intro, ?_⟩)))))
    refine awp_weak (A' := ⟨[(13, .p (.d (.v (.int .i64 (q : Int))))), (12, .p (.d (.v (.int .i64 (i : Int))))), (4, .p (.fn (.func g) [o] [])), (1, .p (.d (.v (.int .i64 (a : Int))))), (0, .ow 1000 gen 1 n)], [(1000, .own 3 1 n gen (rowN (swp y i q)))]⟩) ?_ ?_
    · refine Weak.list ?_ ?_; (all_goals simp (disch := omega) only [AllF, AllL, x10, j10, z10, exists_eq_left', Option.some.injEq, go_sem, seval, pnP, pnM, pnP1, pnM1, r1, r2]); (all_goals (repeat' (with_reducible apply And.intro))); (all_goals try (first | exact z6 rfl | (refine q11 ?_; omega) | (refine z6 ?_; simp; done)))
      exact lle_own rfl rfl (fun k _ => putN_two y i q k)
    (repeat (first | refine j0 ?_ | refine q7 rfl ?_ | refine z7 rfl ?_ | refine x6 ?_ | (refine z2 fun K hK => ?_) | (refine x4 (by kernel_rfl) (by kernel_rfl) fun K hK => ?_) | ((first | refine j5 ?_ | refine q6 ?_ | ((first | refine z1 (hK _ ?_) | refine q5 (hK _ _ (j4 (by kernel_rfl)) ?_)); clear hK K)); (first | show AWP _ _ _ _ _ | ((try simp only [q8]); first | show loopQ _ _ _ _ _ _ | show cutQ _ _ _ _ | show AWP _ _ _ _ _))) | ((first | refine x7 [] rfl ?_ | refine j7 [] rfl ?_); simp (maxSteps := 2000000) (disch := omega) only [go_sem, seval, pnP, pnM, pnP1, pnM1]; (repeat (first | refine ⟨by omega, ?_⟩ | refine ⟨True.intro, ?_⟩)))))
    refine awp_blk (fun s : {s : Nat × (Nat → Nat) // PI key a b x s.2 s.1 s.1} => ptK key x n gen a b g o ⟨(s.val.1, s.val.1, s.val.2), s.property⟩) ?_ ?_
    · refine awp_loop (ptK key x n gen a b g o) (fun s => s.val.2.1 - s.val.1) ⟨(i + 1, q, swp y i q), s2⟩ ?_ (fun s => ?_)
      · unfold ptK
        refine Weak.list ?_ ?_; (all_goals simp (disch := omega) only [AllF, AllL, x10, j10, z10, exists_eq_left', Option.some.injEq, go_sem, seval, pnP, pnM, pnP1, pnM1]); (all_goals (repeat' (with_reducible apply And.intro))); (all_goals try (first | exact z6 rfl | (refine q11 ?_; omega) | (refine z6 ?_; simp; done)))
      clear s2 s1 r1 r2 hq hq2 hq3 g1 g2 g3 h hi hiq dy ra hs0
      obtain ⟨⟨i0, q0, y⟩, hs⟩ := s
      unfold ptK
      simp only [] at hs
      have dy := hx.pe hs.pe (by omega) hb
      have ra := rowN_at y a
      have e1 := hs.h1; have e2 := hs.h2; have e3 := hs.h3
      (repeat (first | refine j0 ?_ | refine q7 rfl ?_ | refine z7 rfl ?_ | refine x6 ?_ | (refine z2 fun K hK => ?_) | (refine x4 (by kernel_rfl) (by kernel_rfl) fun K hK => ?_) | ((first | refine j5 ?_ | refine q6 ?_ | ((first | refine z1 (hK _ ?_) | refine q5 (hK _ _ (j4 (by kernel_rfl)) ?_)); clear hK K)); (first | show AWP _ _ _ _ _ | ((try simp only [q8]); first | show loopQ _ _ _ _ _ _ | show cutQ _ _ _ _ | show AWP _ _ _ _ _))) | ((first | refine x7 [] rfl ?_ | refine j7 [] rfl ?_); simp (maxSteps := 2000000) (disch := omega) only [go_sem, seval, pnP, pnM, pnP1, pnM1]; (repeat (first | refine ⟨by omega, ?_⟩ | refine ⟨True.intro, ?_⟩)))))
      refine awp_blk (fun i : {i : Nat // i0 ≤ i ∧ PI key a b x y i q0 ∧ (i < q0 → ¬ key (y i) < key (y a))} => ptI key x y n gen a b q0 g o ⟨i.val, i.property.2.1⟩) ?_ ?_
      · refine awp_loop (fun i : {i : Nat // i0 ≤ i ∧ PI key a b x y i q0} => ptI key x y n gen a b q0 g o ⟨i.val, i.property.2⟩) (fun s => q0 - s.val) ⟨i0, Nat.le_refl _, hs⟩ ?_ (fun s => ?_)
        · unfold ptI
          refine Weak.list ?_ ?_; (all_goals simp (disch := omega) only [AllF, AllL, x10, j10, z10, exists_eq_left', Option.some.injEq, go_sem, seval, pnP, pnM, pnP1, pnM1]); (all_goals (repeat' (with_reducible apply And.intro))); (all_goals try (first | exact z6 rfl | (refine q11 ?_; omega) | (refine z6 ?_; simp; done)))
        obtain ⟨i, hi0, hi⟩ := s
        unfold ptI
        have g1 := hi.h1; have g2 := hi.h2
        by_cases h : i < q0
        · have r1 := rowN_at y i
          have cc := hc.call (y i) (y a) (dy.lt _ (by omega)) (dy.lt _ (by omega))
          have cl := hc.lt (y i) (y a) (dy.lt _ (by omega)) (dy.lt _ (by omega))
          generalize c (y i) (y a) = c0 at cc cl
          by_cases hlt : c0 < 0
          · (repeat (first | refine j0 ?_ | refine q7 rfl ?_ | refine z7 rfl ?_ | refine x6 ?_ | (refine z2 fun K hK => ?_) | (refine x4 (by kernel_rfl) (by kernel_rfl) fun K hK => ?_) | ((first | refine j5 ?_ | refine q6 ?_ | ((first | refine z1 (hK _ ?_) | refine q5 (hK _ _ (j4 (by kernel_rfl)) ?_)); clear hK K)); (first | show AWP _ _ _ _ _ | ((try simp only [q8]); first | show loopQ _ _ _ _ _ _ | show cutQ _ _ _ _ | show AWP _ _ _ _ _))) | ((first | refine j9 rfl rfl rfl ?_ | refine q10 rfl rfl rfl ?_); simp (maxSteps := 2000000) (disch := omega) only [go_sem, seval, pnP, pnM, pnP1, pnM1, r1, ra]; (first | refine ⟨_, cc, ?_⟩)) | ((first | refine x7 [] rfl ?_ | refine j7 [] rfl ?_); simp (maxSteps := 2000000) (disch := omega) only [go_sem, seval, pnP, pnM, pnP1, pnM1, r1, ra]; (repeat (first | refine ⟨by omega, ?_⟩ | refine ⟨True.intro, ?_⟩)))))
            refine ⟨⟨i + 1, by omega, hi.up h (cl.1 hlt)⟩, by simp only []; omega, ?_⟩
            refine Weak.list ?_ ?_; (all_goals simp (disch := omega) only [AllF, AllL, x10, j10, z10, exists_eq_left', Option.some.injEq, go_sem, seval, pnP, pnM, pnP1, pnM1, r1, ra]); (all_goals (repeat' (with_reducible apply And.intro))); (all_goals try (first | exact z6 rfl | (refine q11 ?_; omega) | (refine z6 ?_; simp; done)))
          · (repeat (first | refine j0 ?_ | refine q7 rfl ?_ | refine z7 rfl ?_ | refine x6 ?_ | (refine z2 fun K hK => ?_) | (refine x4 (by kernel_rfl) (by kernel_rfl) fun K hK => ?_) | ((first | refine j5 ?_ | refine q6 ?_ | ((first | refine z1 (hK _ ?_) | refine q5 (hK _ _ (j4 (by kernel_rfl)) ?_)); clear hK K)); (first | show AWP _ _ _ _ _ | ((try simp only [q8]); first | show loopQ _ _ _ _ _ _ | show cutQ _ _ _ _ | show AWP _ _ _ _ _))) | ((first | refine j9 rfl rfl rfl ?_ | refine q10 rfl rfl rfl ?_); simp (maxSteps := 2000000) (disch := omega) only [go_sem, seval, pnP, pnM, pnP1, pnM1, r1, ra]; (first | refine ⟨_, cc, ?_⟩)) | ((first | refine x7 [] rfl ?_ | refine j7 [] rfl ?_); simp (maxSteps := 2000000) (disch := omega) only [go_sem, seval, pnP, pnM, pnP1, pnM1, r1, ra]; (repeat (first | refine ⟨by omega, ?_⟩ | refine ⟨True.intro, ?_⟩)))))
            (show cutQ _ _ .normal _); refine cut_n (⟨i, hi0, hi, fun _ h => hlt (cl.2 h)⟩) ?_
            refine Weak.list ?_ ?_; (all_goals simp (disch := omega) only [AllF, AllL, x10, j10, z10, exists_eq_left', Option.some.injEq, go_sem, seval, pnP, pnM, pnP1, pnM1, r1, ra]); (all_goals (repeat' (with_reducible apply And.intro))); (all_goals try (first | exact z6 rfl | (refine q11 ?_; omega) | (refine z6 ?_; simp; done)))
        · (repeat (first | refine j0 ?_ | refine q7 rfl ?_ | refine z7 rfl ?_ | refine x6 ?_ | (refine z2 fun K hK => ?_) | (refine x4 (by kernel_rfl) (by kernel_rfl) fun K hK => ?_) | ((first | refine j5 ?_ | refine q6 ?_ | ((first | refine z1 (hK _ ?_) | refine q5 (hK _ _ (j4 (by kernel_rfl)) ?_)); clear hK K)); (first | show AWP _ _ _ _ _ | ((try simp only [q8]); first | show loopQ _ _ _ _ _ _ | show cutQ _ _ _ _ | show AWP _ _ _ _ _))) | ((first | refine x7 [] rfl ?_ | refine j7 [] rfl ?_); simp (maxSteps := 2000000) (disch := omega) only [go_sem, seval, pnP, pnM, pnP1, pnM1]; (repeat (first | refine ⟨by omega, ?_⟩ | refine ⟨True.intro, ?_⟩)))))
          (show cutQ _ _ .normal _); refine cut_n (⟨i, hi0, hi, fun h' => absurd h' h⟩) ?_
          refine Weak.list ?_ ?_; (all_goals simp (disch := omega) only [AllF, AllL, x10, j10, z10, exists_eq_left', Option.some.injEq, go_sem, seval, pnP, pnM, pnP1, pnM1]); (all_goals (repeat' (with_reducible apply And.intro))); (all_goals try (first | exact z6 rfl | (refine q11 ?_; omega) | (refine z6 ?_; simp; done)))
      rintro ⟨i, hi0, hi, hiq⟩
      unfold ptI
      have g2 := hi.h2
      (repeat (first | refine j0 ?_ | refine q7 rfl ?_ | refine z7 rfl ?_ | refine x6 ?_ | (refine z2 fun K hK => ?_) | (refine x4 (by kernel_rfl) (by kernel_rfl) fun K hK => ?_) | ((first | refine j5 ?_ | refine q6 ?_ | ((first | refine z1 (hK _ ?_) | refine q5 (hK _ _ (j4 (by kernel_rfl)) ?_)); clear hK K)); (first | show AWP _ _ _ _ _ | ((try simp only [q8]); first | show loopQ _ _ _ _ _ _ | show cutQ _ _ _ _ | show AWP _ _ _ _ _))) | ((first | refine x7 [] rfl ?_ | refine j7 [] rfl ?_); simp (maxSteps := 2000000) (disch := omega) only [go_sem, seval, pnP, pnM, pnP1, pnM1]; (repeat (first | refine ⟨by omega, ?_⟩ | refine ⟨True.intro, ?_⟩)))))
      refine awp_blk (fun q : {q : Nat // q ≤ q0 ∧ PI key a b x y i q ∧ (i < q → ¬ key (y i) < key (y a)) ∧ (i < q → key (y (q - 1)) < key (y a))} => ptJ key x y n gen a b i g o ⟨q.val, q.property.2.1, q.property.2.2.1⟩) ?_ ?_
      · refine awp_loop (fun q : {q : Nat // q ≤ q0 ∧ PI key a b x y i q ∧ (i < q → ¬ key (y i) < key (y a))} => ptJ key x y n gen a b i g o ⟨q.val, q.property.2.1, q.property.2.2⟩) (fun s => s.val) ⟨q0, Nat.le_refl _, hi, hiq⟩ ?_ (fun s => ?_)
        · unfold ptJ
          refine Weak.list ?_ ?_; (all_goals simp (disch := omega) only [AllF, AllL, x10, j10, z10, exists_eq_left', Option.some.injEq, go_sem, seval, pnP, pnM, pnP1, pnM1]); (all_goals (repeat' (with_reducible apply And.intro))); (all_goals try (first | exact z6 rfl | (refine q11 ?_; omega) | (refine z6 ?_; simp; done)))
        obtain ⟨q, hq0, hq, hq2⟩ := s
        unfold ptJ
        have g1 := hq.h1; have g2 := hq.h2; have g3 := hq.h3
        by_cases h : i < q
        · obtain ⟨q, rfl⟩ : ∃ k, q = k + 1 := ⟨q - 1, by omega⟩
          have r1 := rowN_at y q
          have cc := hc.call (y q) (y a) (dy.lt _ (by omega)) (dy.lt _ (by omega))
          have cl := hc.lt (y q) (y a) (dy.lt _ (by omega)) (dy.lt _ (by omega))
          generalize c (y q) (y a) = c0 at cc cl
          by_cases hlt : c0 < 0
          · (repeat (first | refine j0 ?_ | refine q7 rfl ?_ | refine z7 rfl ?_ | refine x6 ?_ | (refine z2 fun K hK => ?_) | (refine x4 (by kernel_rfl) (by kernel_rfl) fun K hK => ?_) | ((first | refine j5 ?_ | refine q6 ?_ | ((first | refine z1 (hK _ ?_) | refine q5 (hK _ _ (j4 (by kernel_rfl)) ?_)); clear hK K)); (first | show AWP _ _ _ _ _ | ((try simp only [q8]); first | show loopQ _ _ _ _ _ _ | show cutQ _ _ _ _ | show AWP _ _ _ _ _))) | ((first | refine j9 rfl rfl rfl ?_ | refine q10 rfl rfl rfl ?_); simp (maxSteps := 2000000) (disch := omega) only [go_sem, seval, pnP, pnM, pnP1, pnM1, r1, ra]; (first | refine ⟨_, cc, ?_⟩)) | ((first | refine x7 [] rfl ?_ | refine j7 [] rfl ?_); simp (maxSteps := 2000000) (disch := omega) only [go_sem, seval, pnP, pnM, pnP1, pnM1, r1, ra]; (repeat (first | refine ⟨by omega, ?_⟩ | refine ⟨True.intro, ?_⟩)))))
            (show cutQ _ _ .normal _); refine cut_n (⟨q + 1, hq0, hq, hq2, fun _ => cl.1 hlt⟩) ?_
            refine Weak.list ?_ ?_; (all_goals simp (disch := omega) only [AllF, AllL, x10, j10, z10, exists_eq_left', Option.some.injEq, go_sem, seval, pnP, pnM, pnP1, pnM1, r1, ra]); (all_goals (repeat' (with_reducible apply And.intro))); (all_goals try (first | exact z6 rfl | (refine q11 ?_; omega) | (refine z6 ?_; simp; done)))
          · (repeat (first | refine j0 ?_ | refine q7 rfl ?_ | refine z7 rfl ?_ | refine x6 ?_ | (refine z2 fun K hK => ?_) | (refine x4 (by kernel_rfl) (by kernel_rfl) fun K hK => ?_) | ((first | refine j5 ?_ | refine q6 ?_ | ((first | refine z1 (hK _ ?_) | refine q5 (hK _ _ (j4 (by kernel_rfl)) ?_)); clear hK K)); (first | show AWP _ _ _ _ _ | ((try simp only [q8]); first | show loopQ _ _ _ _ _ _ | show cutQ _ _ _ _ | show AWP _ _ _ _ _))) | ((first | refine j9 rfl rfl rfl ?_ | refine q10 rfl rfl rfl ?_); simp (maxSteps := 2000000) (disch := omega) only [go_sem, seval, pnP, pnM, pnP1, pnM1, r1, ra]; (first | refine ⟨_, cc, ?_⟩)) | ((first | refine x7 [] rfl ?_ | refine j7 [] rfl ?_); simp (maxSteps := 2000000) (disch := omega) only [go_sem, seval, pnP, pnM, pnP1, pnM1, r1, ra]; (repeat (first | refine ⟨by omega, ?_⟩ | refine ⟨True.intro, ?_⟩)))))
            refine ⟨⟨q, by omega, hq.down (by omega) (fun e => hlt (cl.2 e)), fun h' => hq2 h⟩, by simp only []; omega, ?_⟩
            refine Weak.list ?_ ?_; (all_goals simp (disch := omega) only [AllF, AllL, x10, j10, z10, exists_eq_left', Option.some.injEq, go_sem, seval, pnP, pnM, pnP1, pnM1, r1, ra]); (all_goals (repeat' (with_reducible apply And.intro))); (all_goals try (first | exact z6 rfl | (refine q11 ?_; omega) | (refine z6 ?_; simp; done)))
        · (repeat (first | refine j0 ?_ | refine q7 rfl ?_ | refine z7 rfl ?_ | refine x6 ?_ | (refine z2 fun K hK => ?_) | (refine x4 (by kernel_rfl) (by kernel_rfl) fun K hK => ?_) | ((first | refine j5 ?_ | refine q6 ?_ | ((first | refine z1 (hK _ ?_) | refine q5 (hK _ _ (j4 (by kernel_rfl)) ?_)); clear hK K)); (first | show AWP _ _ _ _ _ | ((try simp only [q8]); first | show loopQ _ _ _ _ _ _ | show cutQ _ _ _ _ | show AWP _ _ _ _ _))) | ((first | refine x7 [] rfl ?_ | refine j7 [] rfl ?_); simp (maxSteps := 2000000) (disch := omega) only [go_sem, seval, pnP, pnM, pnP1, pnM1]; (repeat (first | refine ⟨by omega, ?_⟩ | refine ⟨True.intro, ?_⟩)))))
          (show cutQ _ _ .normal _); refine cut_n (⟨q, hq0, hq, hq2, fun h' => absurd h' h⟩) ?_
          refine Weak.list ?_ ?_; (all_goals simp (disch := omega) only [AllF, AllL, x10, j10, z10, exists_eq_left', Option.some.injEq, go_sem, seval, pnP, pnM, pnP1, pnM1]); (all_goals (repeat' (with_reducible apply And.intro))); (all_goals try (first | exact z6 rfl | (refine q11 ?_; omega) | (refine z6 ?_; simp; done)))
      rintro ⟨q, hq0, hq, hq2, hq3⟩
      unfold ptJ
      have g1 := hq.h1; have g2 := hq.h2; have g3 := hq.h3
      by_cases h : i = q
      · subst h
        (repeat (first | refine j0 ?_ | refine q7 rfl ?_ | refine z7 rfl ?_ | refine x6 ?_ | (refine z2 fun K hK => ?_) | (refine x4 (by kernel_rfl) (by kernel_rfl) fun K hK => ?_) | ((first | refine j5 ?_ | refine q6 ?_ | ((first | refine z1 (hK _ ?_) | refine q5 (hK _ _ (j4 (by kernel_rfl)) ?_)); clear hK K)); (first | show AWP _ _ _ _ _ | ((try simp only [q8]); first | show loopQ _ _ _ _ _ _ | show cutQ _ _ _ _ | show AWP _ _ _ _ _))) | ((first | refine x7 [] rfl ?_ | refine j7 [] rfl ?_); simp (maxSteps := 2000000) (disch := omega) only [go_sem, seval, pnP, pnM, pnP1, pnM1]; (repeat (first | refine ⟨by omega, ?_⟩ | refine ⟨True.intro, ?_⟩)))))
        (show cutQ _ _ .normal _); refine cut_n (⟨(i, y), hq⟩) ?_
        refine Weak.list ?_ ?_; (all_goals simp (disch := omega) only [AllF, AllL, x10, j10, z10, exists_eq_left', Option.some.injEq, go_sem, seval, pnP, pnM, pnP1, pnM1]); (all_goals (repeat' (with_reducible apply And.intro))); (all_goals try (first | exact z6 rfl | (refine q11 ?_; omega) | (refine z6 ?_; simp; done)))
      · obtain ⟨q, rfl⟩ : ∃ k, q = k + 1 := ⟨q - 1, by omega⟩
        rw [Nat.add_sub_cancel] at hq3
        obtain ⟨s1, s2⟩ := hq.swap (by omega) (hq2 (by omega)) (hq3 (by omega))
        have r1 := rowN_at y i
        have r2 := rowN_at y q
        (repeat (first | refine j0 ?_ | refine q7 rfl ?_ | refine z7 rfl ?_ | refine x6 ?_ | (refine z2 fun K hK => ?_) | (refine x4 (by kernel_rfl) (by kernel_rfl) fun K hK => ?_) | ((first | refine j5 ?_ | refine q6 ?_ | ((first | refine z1 (hK _ ?_) | refine q5 (hK _ _ (j4 (by kernel_rfl)) ?_)); clear hK K)); (first | show AWP _ _ _ _ _ | ((try simp only [q8]); first | show loopQ _ _ _ _ _ _ | show cutQ _ _ _ _ | show AWP _ _ _ _ _))) | ((first | refine x7 [] rfl ?_ | refine j7 [] rfl ?_); simp (maxSteps := 2000000) (disch := omega) only [go_sem, seval, pnP, pnM, pnP1, pnM1, r1, r2]; (repeat (first | refine ⟨by omega, ?_⟩ | refine ⟨True.intro, ?_⟩)))))
        refine ⟨⟨(i + 1, q, swp y i q), s2⟩, by simp only []; omega, ?_⟩
        refine Weak.list ?_ ?_; (all_goals simp (disch := omega) only [AllF, AllL, x10, j10, z10, exists_eq_left', Option.some.injEq, go_sem, seval, pnP, pnM, pnP1, pnM1, r1, r2]); (all_goals (repeat' (with_reducible apply And.intro))); (all_goals try (first | exact z6 rfl | (refine q11 ?_; omega) | (refine z6 ?_; simp; done)))
        exact lle_own rfl rfl (fun k _ => putN_two y i q k)
    rintro ⟨⟨q, z⟩, hz⟩
    unfold ptK
    simp only [] at hz
    have e1 := hz.h1; have e3 := hz.h3
    obtain ⟨q, rfl⟩ : ∃ k, q = k + 1 := ⟨q - 1, by omega⟩
    have r1 := rowN_at z q
    have r2 := rowN_at z a
    obtain ⟨d1, d2, d3, d4⟩ := hz.done
    (repeat ((fail_if_success (show AWP _ _ (.region 22 _ _) _ _)); first | refine j0 ?_ | refine q7 rfl ?_ | refine z7 rfl ?_ | refine x6 ?_ | (refine z2 fun K hK => ?_) | (refine x4 (by kernel_rfl) (by kernel_rfl) fun K hK => ?_) | ((first | refine j5 ?_ | refine q6 ?_ | ((first | refine z1 (hK _ ?_) | refine q5 (hK _ _ (j4 (by kernel_rfl)) ?_)); clear hK K)); (first | show AWP _ _ _ _ _ | ((try simp only [q8]); first | show loopQ _ _ _ _ _ _ | show cutQ _ _ _ _ | show AWP _ _ _ _ _))) | ((first | refine x7 [] rfl ?_ | refine j7 [] rfl ?_); simp (maxSteps := 2000000) (disch := omega) only [go_sem, seval, pnP, pnM, pnP1, pnM1, r1, r2]; (repeat (first | refine ⟨by omega, ?_⟩ | refine ⟨True.intro, ?_⟩)))))
    refine awp_weak (A' := ⟨[(13, .p (.d (.v (.int .i64 (q : Int)))))], [(1000, .own 3 1 n gen (rowN (swp z q a)))]⟩) ?_ ?_
    · refine Weak.list ?_ ?_; (all_goals simp (disch := omega) only [AllF, AllL, x10, j10, z10, exists_eq_left', Option.some.injEq, go_sem, seval, pnP, pnM, pnP1, pnM1, r1, r2]); (all_goals (repeat' (with_reducible apply And.intro))); (all_goals try (first | exact z6 rfl | (refine q11 ?_; omega) | (refine z6 ?_; simp; done)))
      exact lle_own rfl rfl (fun k _ => putN_two z q a k)
    (repeat (first | refine j0 ?_ | refine q7 rfl ?_ | refine z7 rfl ?_ | refine x6 ?_ | (refine z2 fun K hK => ?_) | (refine x4 (by kernel_rfl) (by kernel_rfl) fun K hK => ?_) | ((first | refine j5 ?_ | refine q6 ?_ | ((first | refine z1 (hK _ ?_) | refine q5 (hK _ _ (j4 (by kernel_rfl)) ?_)); clear hK K)); (first | show AWP _ _ _ _ _ | ((try simp only [q8]); first | show loopQ _ _ _ _ _ _ | show cutQ _ _ _ _ | show AWP _ _ _ _ _))) | ((first | refine x7 [] rfl ?_ | refine j7 [] rfl ?_); simp (maxSteps := 2000000) (disch := omega) only [go_sem, seval, pnP, pnM, pnP1, pnM1]; (repeat (first | refine ⟨by omega, ?_⟩ | refine ⟨True.intro, ?_⟩)))))
    exact x9 (retM_of [_, _] [(1000, _)] ⟨rfl, rfl, trivial⟩ (by simp [AL.look] <;> first | rfl | exact ⟨rfl, rfl⟩) ⟨⟨(q, false, swp z q a), d1, d2, d3, d4⟩, rfl, rfl⟩)
end Go.Proofs.Ytbiildleaelodaa
set_option linter.unusedSimpArgs false
set_option linter.unusedVariables false
namespace Go.Proofs.Ytbiildleaelodaa
open Go.Proofs.Ytbiildleaelodaa.AL
def paS (n gen a b : Nat) (g : FuncId) (o : PV) (i j : Nat) (y : Nat → Nat) : ASt :=
  ⟨[(10, .p (.d (.v (.int .i64 (j : Int))))), (9, .p (.d (.v (.int .i64 (i : Int))))), (3, .p (.fn (.func g) [o] [])), (2, .p (.d (.v (.int .i64 (b : Int))))), (1, .p (.d (.v (.int .i64 (a : Int))))), (0, .ow 1000 gen 1 n)],
   [(1000, .own 3 1 n gen (rowN y))]⟩
def paL (n gen a b : Nat) (g : FuncId) (o : PV) (i j : Nat) (k : Nat) (y : Nat → Nat) : ASt :=
  ⟨[(11, .p (.d (.v (.int .i64 (k : Int))))), (10, .p (.d (.v (.int .i64 (j : Int))))), (9, .p (.d (.v (.int .i64 (i : Int))))), (3, .p (.fn (.func g) [o] [])), (2, .p (.d (.v (.int .i64 (b : Int))))), (1, .p (.d (.v (.int .i64 (a : Int))))), (0, .ow 1000 gen 1 n)],
   [(1000, .own 3 1 n gen (rowN y))]⟩
def paR (n gen a b : Nat) (g : FuncId) (o : PV) (i j : Nat) (k : Nat) (y : Nat → Nat) : ASt :=
  ⟨[(12, .p (.d (.v (.int .i64 (k : Int))))), (10, .p (.d (.v (.int .i64 (j : Int))))), (9, .p (.d (.v (.int .i64 (i : Int))))), (3, .p (.fn (.func g) [o] [])), (2, .p (.d (.v (.int .i64 (b : Int))))), (1, .p (.d (.v (.int .i64 (a : Int))))), (0, .ow 1000 gen 1 n)],
   [(1000, .own 3 1 n gen (rowN y))]⟩
structure PA (key : Nat → Int) (a b : Nat) (x : Nat → Nat) (i : Nat) (y : Nat → Nat) : Prop where
  h1 : a + 1 ≤ i
  h2 : i ≤ b
  pe : PE a b x y
  st : Srt key a i y
theorem PA.up {key : Nat → Int} {a b i : Nat} {x y : Nat → Nat} (h : PA key a b x i y) (hl : i < b) (hk : ¬ key (y i) < key (y (i - 1))) : PA key a b x (i + 1) y := by
  refine ⟨by have := h.h1; omega, hl, h.pe, fun p q h1 h2 h3 => ?_⟩
  have := h.h1
  by_cases e : q = i
  · subst e
    by_cases e2 : p = q - 1
    · subst e2; omega
    · have := h.st p (q - 1) h1 (by omega) (by omega); omega
  · exact h.st p q h1 h2 (by omega)
theorem PA.swap {key : Nat → Int} {a b i : Nat} {x y : Nat → Nat} (h : PA key a b x i y) (hl : i < b) : PE a b x (swp y i (i - 1)) ∧ Srt key a (i - 1) (swp y i (i - 1)) := by
  have := h.h1
  refine ⟨h.pe.trans (PE.swp (by omega) (by omega) (by omega) (by omega)), fun p q h1 h2 h3 => ?_⟩
  rw [swp_o _ (by omega) (by omega), swp_o _ (by omega) (by omega)]
  exact h.st p q h1 h2 (by omega)
set_option maxRecDepth 100000 in
set_option maxHeartbeats 4000000 in
theorem partial_c {key : Nat → Int} {c : Nat → Nat → Int} {g : FuncId} {o : PV} {N : Nat} (hc : CmpN Try.prog g o N key c) (x : Nat → Nat) (n gen a b : Nat) (hab : a + 12 < b) (hb : b ≤ n) (hn : n ≤ 1099511627776) (hx : Dom n N x) (hbl : Blw key a b x) :
    MCalls Try.prog 115 [.ow 1000 gen 1 n, .p (.d (.v (.int .i64 (a : Int)))), .p (.d (.v (.int .i64 (b : Int)))), .p (.fn (.func g) [o] [])] [(1000, .own 3 1 n gen (rowN x))]
      (fun rs M => ∃ r : {r : Bool × (Nat → Nat) // PE a b x r.2 ∧ (r.1 = true → Srt key a b r.2)}, rs = [.p (.d (.v (.bool r.val.1)))] ∧ M = [(1000, .own 3 1 n gen (rowN r.val.2))]) := by
  have lt1 : ∀ (y : Nat → Nat) (p q : Nat), PE a b x y → p < n → q < n → ACalls Try.prog g [o, .d (.v (.int .i64 (y p : Int))), .d (.v (.int .i64 (y q : Int)))] (· = [.d (.v (.int .i64 (c (y p) (y q))))]) ∧ (c (y p) (y q) < 0 ↔ key (y p) < key (y q)) := fun y p q hp h1 h2 =>
    have dy := hx.pe hp (by omega) hb
    ⟨hc.call _ _ (dy.lt _ h1) (dy.lt _ h2), hc.lt _ _ (dy.lt _ h1) (dy.lt _ h2)⟩
  refine mcalls_of_awp Try.func115 rfl (by decide +kernel) (by rw [Try.ntmps115]; simp) (fun l X h => by simp only [AL.look] at h; (repeat' split at h); all_goals first | omega | cases h) ?_; rw [Try.ntmps115]; simp only [frA]
  (repeat (first | refine j0 ?_ | refine q7 rfl ?_ | refine z7 rfl ?_ | refine x6 ?_ | (refine z2 fun K hK => ?_) | (refine x4 (by kernel_rfl) (by kernel_rfl) fun K hK => ?_) | ((first | refine j5 ?_ | refine q6 ?_ | ((first | refine z1 (hK _ ?_) | refine q5 (hK _ _ (j4 (by kernel_rfl)) ?_)); clear hK K)); (first | show AWP _ _ _ _ _ | ((try simp only [q8]); first | show loopQ _ _ _ _ _ _ | show cutQ _ _ _ _ | show AWP _ _ _ _ _))) | ((first | refine x7 [] rfl ?_ | refine j7 [] rfl ?_); simp (maxSteps := 2000000) (disch := omega) only [go_sem, seval, pnP, pnM, pnP1, pnM1]; (repeat (first | refine ⟨by omega, ?_⟩ | refine ⟨True.intro, ?_⟩)))))
  refine awp_loop (fun s : {s : Nat × Nat × (Nat → Nat) // s.2.1 ≤ 5 ∧ PA key a b x s.1 s.2.2} => paS n gen a b g o s.val.1 s.val.2.1 s.val.2.2) (fun s => 5 - s.val.2.1) ⟨(a + 1, 0, x), by simp only []; omega, ⟨Nat.le_refl _, by omega, PE.refl _ _ _, fun p q h1 h2 h3 => by omega⟩⟩ ?_ (fun s => ?_)
  · unfold paS
    refine Weak.list ?_ ?_; (all_goals simp (disch := omega) only [AllF, AllL, x10, j10, z10, exists_eq_left', Option.some.injEq, go_sem, seval, pnP, pnM, pnP1, pnM1]); (all_goals (repeat' (with_reducible apply And.intro))); (all_goals try (first | exact z6 rfl | (refine q11 ?_; omega) | (refine z6 ?_; simp; done)))
  obtain ⟨⟨i0, j, y⟩, hj, hs⟩ := s
  unfold paS
  simp only [] at hj hs
  have e1 := hs.h1; have e2 := hs.h2
  by_cases hj5 : j < 5
  · (repeat (first | refine j0 ?_ | refine q7 rfl ?_ | refine z7 rfl ?_ | refine x6 ?_ | (refine z2 fun K hK => ?_) | (refine x4 (by kernel_rfl) (by kernel_rfl) fun K hK => ?_) | ((first | refine j5 ?_ | refine q6 ?_ | ((first | refine z1 (hK _ ?_) | refine q5 (hK _ _ (j4 (by kernel_rfl)) ?_)); clear hK K)); (first | show AWP _ _ _ _ _ | ((try simp only [q8]); first | show loopQ _ _ _ _ _ _ | show cutQ _ _ _ _ | show AWP _ _ _ _ _))) | ((first | refine x7 [] rfl ?_ | refine j7 [] rfl ?_); simp (maxSteps := 2000000) (disch := omega) only [go_sem, seval, pnP, pnM, pnP1, pnM1]; (repeat (first | refine ⟨by omega, ?_⟩ | refine ⟨True.intro, ?_⟩)))))
    refine awp_blk (fun i : {i : Nat // PA key a b x i y ∧ (i < b → True)} => paS n gen a b g o i.val j y) ?_ ?_
    · refine awp_loop (fun i : {i : Nat // PA key a b x i y} => paS n gen a b g o i.val j y) (fun s => b - s.val) ⟨i0, hs⟩ ?_ (fun s => ?_)
      · unfold paS
        refine Weak.list ?_ ?_; (all_goals simp (disch := omega) only [AllF, AllL, x10, j10, z10, exists_eq_left', Option.some.injEq, go_sem, seval, pnP, pnM, pnP1, pnM1]); (all_goals (repeat' (with_reducible apply And.intro))); (all_goals try (first | exact z6 rfl | (refine q11 ?_; omega) | (refine z6 ?_; simp; done)))
      obtain ⟨i, hi⟩ := s
      unfold paS
      have g1 := hi.h1; have g2 := hi.h2
      by_cases h : i < b
      · obtain ⟨i, rfl⟩ : ∃ k, i = k + 1 := ⟨i - 1, by omega⟩
        have r1 := rowN_at y (i + 1)
        have r2 := rowN_at y i
        obtain ⟨cc, cl⟩ := lt1 y (i + 1) i hi.pe (by omega) (by omega)
        generalize c (y (i + 1)) (y i) = c0 at cc cl
        by_cases hlt : c0 < 0
        · (repeat (first | refine j0 ?_ | refine q7 rfl ?_ | refine z7 rfl ?_ | refine x6 ?_ | (refine z2 fun K hK => ?_) | (refine x4 (by kernel_rfl) (by kernel_rfl) fun K hK => ?_) | ((first | refine j5 ?_ | refine q6 ?_ | ((first | refine z1 (hK _ ?_) | refine q5 (hK _ _ (j4 (by kernel_rfl)) ?_)); clear hK K)); (first | show AWP _ _ _ _ _ | ((try simp only [q8]); first | show loopQ _ _ _ _ _ _ | show cutQ _ _ _ _ | show AWP _ _ _ _ _))) | ((first | refine j9 rfl rfl rfl ?_ | refine q10 rfl rfl rfl ?_); simp (maxSteps := 2000000) (disch := omega) only [go_sem, seval, pnP, pnM, pnP1, pnM1, r1, r2]; (first | refine ⟨_, cc, ?_⟩)) | ((first | refine x7 [] rfl ?_ | refine j7 [] rfl ?_); simp (maxSteps := 2000000) (disch := omega) only [go_sem, seval, pnP, pnM, pnP1, pnM1, r1, r2]; (repeat (first | refine ⟨by omega, ?_⟩ | refine ⟨True.intro, ?_⟩)))))
          (show cutQ _ _ .normal _); refine cut_n (⟨i + 1, hi, fun _ => trivial⟩) ?_
          refine Weak.list ?_ ?_; (all_goals simp (disch := omega) only [AllF, AllL, x10, j10, z10, exists_eq_left', Option.some.injEq, go_sem, seval, pnP, pnM, pnP1, pnM1, r1, r2]); (all_goals (repeat' (with_reducible apply And.intro))); (all_goals try (first | exact z6 rfl | (refine q11 ?_; omega) | (refine z6 ?_; simp; done)))
        · (repeat (first | refine j0 ?_ | refine q7 rfl ?_ | refine z7 rfl ?_ | refine x6 ?_ | (refine z2 fun K hK => ?_) | (refine x4 (by kernel_rfl) (by kernel_rfl) fun K hK => ?_) | ((first | refine j5 ?_ | refine q6 ?_ | ((first | refine z1 (hK _ ?_) | refine q5 (hK _ _ (j4 (by kernel_rfl)) ?_)); clear hK K)); (first | show AWP _ _ _ _ _ | ((try simp only [q8]); first | show loopQ _ _ _ _ _ _ | show cutQ _ _ _ _ | show AWP _ _ _ _ _))) | ((first | refine j9 rfl rfl rfl ?_ | refine q10 rfl rfl rfl ?_); simp (maxSteps := 2000000) (disch := omega) only [go_sem, seval, pnP, pnM, pnP1, pnM1, r1, r2]; (first | refine ⟨_, cc, ?_⟩)) | ((first | refine x7 [] rfl ?_ | refine j7 [] rfl ?_); simp (maxSteps := 2000000) (disch := omega) only [go_sem, seval, pnP, pnM, pnP1, pnM1, r1, r2]; (repeat (first | refine ⟨by omega, ?_⟩ | refine ⟨True.intro, ?_⟩)))))
          refine ⟨⟨i + 2, hi.up (by omega) (fun e => hlt (cl.2 e))⟩, by simp only []; omega, ?_⟩
          refine Weak.list ?_ ?_; (all_goals simp (disch := omega) only [AllF, AllL, x10, j10, z10, exists_eq_left', Option.some.injEq, go_sem, seval, pnP, pnM, pnP1, pnM1, r1, r2]); (all_goals (repeat' (with_reducible apply And.intro))); (all_goals try (first | exact z6 rfl | (refine q11 ?_; omega) | (refine z6 ?_; simp; done)))
      · (repeat (first | refine j0 ?_ | refine q7 rfl ?_ | refine z7 rfl ?_ | refine x6 ?_ | (refine z2 fun K hK => ?_) | (refine x4 (by kernel_rfl) (by kernel_rfl) fun K hK => ?_) | ((first | refine j5 ?_ | refine q6 ?_ | ((first | refine z1 (hK _ ?_) | refine q5 (hK _ _ (j4 (by kernel_rfl)) ?_)); clear hK K)); (first | show AWP _ _ _ _ _ | ((try simp only [q8]); first | show loopQ _ _ _ _ _ _ | show cutQ _ _ _ _ | show AWP _ _ _ _ _))) | ((first | refine x7 [] rfl ?_ | refine j7 [] rfl ?_); simp (maxSteps := 2000000) (disch := omega) only [go_sem, seval, pnP, pnM, pnP1, pnM1]; (repeat (first | refine ⟨by omega, ?_⟩ | refine ⟨True.intro, ?_⟩)))))
        (show cutQ _ _ .normal _); refine cut_n (⟨i, hi, fun _ => trivial⟩) ?_
        refine Weak.list ?_ ?_; (all_goals simp (disch := omega) only [AllF, AllL, x10, j10, z10, exists_eq_left', Option.some.injEq, go_sem, seval, pnP, pnM, pnP1, pnM1]); (all_goals (repeat' (with_reducible apply And.intro))); (all_goals try (first | exact z6 rfl | (refine q11 ?_; omega) | (refine z6 ?_; simp; done)))
    rintro ⟨i, hi, -⟩
    unfold paS
    clear e1 e2
    simp only []
    have g1 := hi.h1; have g2 := hi.h2
    by_cases hib : i = b
    · subst hib
      have q : ((i : Int) == (i : Int)) = true := ieq_tt rfl
      (repeat (first | refine j0 ?_ | refine q7 rfl ?_ | refine z7 rfl ?_ | refine x6 ?_ | (refine z2 fun K hK => ?_) | (refine x4 (by kernel_rfl) (by kernel_rfl) fun K hK => ?_) | ((first | refine j5 ?_ | refine q6 ?_ | ((first | refine z1 (hK _ ?_) | refine q5 (hK _ _ (j4 (by kernel_rfl)) ?_)); clear hK K)); (first | show AWP _ _ _ _ _ | ((try simp only [q8]); first | show loopQ _ _ _ _ _ _ | show cutQ _ _ _ _ | show AWP _ _ _ _ _))) | ((first | refine x7 [] rfl ?_ | refine j7 [] rfl ?_); simp (maxSteps := 2000000) (disch := omega) only [go_sem, seval, pnP, pnM, pnP1, pnM1, q]; (repeat (first | refine ⟨by omega, ?_⟩ | refine ⟨True.intro, ?_⟩)))))
      exact x9 (retM_of [_] [(1000, _)] ⟨rfl, trivial⟩ (by simp [AL.look] <;> first | rfl | exact ⟨rfl, rfl⟩) ⟨⟨(true, y), hi.pe, fun _ => hi.st⟩, rfl, rfl⟩)
    · have q : ((i : Int) == (b : Int)) = false := ieq_ff (by omega)
      by_cases h50 : b - a < 50
      · (repeat (first | refine j0 ?_ | refine q7 rfl ?_ | refine z7 rfl ?_ | refine x6 ?_ | (refine z2 fun K hK => ?_) | (refine x4 (by kernel_rfl) (by kernel_rfl) fun K hK => ?_) | ((first | refine j5 ?_ | refine q6 ?_ | ((first | refine z1 (hK _ ?_) | refine q5 (hK _ _ (j4 (by kernel_rfl)) ?_)); clear hK K)); (first | show AWP _ _ _ _ _ | ((try simp only [q8]); first | show loopQ _ _ _ _ _ _ | show cutQ _ _ _ _ | show AWP _ _ _ _ _))) | ((first | refine x7 [] rfl ?_ | refine j7 [] rfl ?_); simp (maxSteps := 2000000) (disch := omega) only [go_sem, seval, pnP, pnM, pnP1, pnM1, q]; (repeat (first | refine ⟨by omega, ?_⟩ | refine ⟨True.intro, ?_⟩)))))
        exact x9 (retM_of [_] [(1000, _)] ⟨rfl, trivial⟩ (by simp [AL.look] <;> first | rfl | exact ⟨rfl, rfl⟩) ⟨⟨(false, y), hi.pe, fun h => by cases h⟩, rfl, rfl⟩)
      · obtain ⟨p1, p2⟩ := hi.swap (by omega)
        obtain ⟨i, rfl⟩ : ∃ k, i = k + 1 := ⟨i - 1, by omega⟩
        rw [Nat.add_sub_cancel] at p1 p2
        have r1 := rowN_at y (i + 1)
        have r2 := rowN_at y i
        (repeat ((fail_if_success (show AWP _ _ (.region 12 _ _) _ _)); first | refine j0 ?_ | refine q7 rfl ?_ | refine z7 rfl ?_ | refine x6 ?_ | (refine z2 fun K hK => ?_) | (refine x4 (by kernel_rfl) (by kernel_rfl) fun K hK => ?_) | ((first | refine j5 ?_ | refine q6 ?_ | ((first | refine z1 (hK _ ?_) | refine q5 (hK _ _ (j4 (by kernel_rfl)) ?_)); clear hK K)); (first | show AWP _ _ _ _ _ | ((try simp only [q8]); first | show loopQ _ _ _ _ _ _ | show cutQ _ _ _ _ | show AWP _ _ _ _ _))) | ((first | refine x7 [] rfl ?_ | refine j7 [] rfl ?_); simp (maxSteps := 2000000) (disch := omega) only [go_sem, seval, pnP, pnM, pnP1, pnM1, q, r1, r2]; (repeat (first | refine ⟨by omega, ?_⟩ | refine ⟨True.intro, ?_⟩)))))
        refine awp_weak (A' := paS n gen a b g o (i + 1) j (swp y (i + 1) i)) ?_ ?_
        · unfold paS
          refine Weak.list ?_ ?_; (all_goals simp (disch := omega) only [AllF, AllL, x10, j10, z10, exists_eq_left', Option.some.injEq, go_sem, seval, pnP, pnM, pnP1, pnM1]); (all_goals (repeat' (with_reducible apply And.intro))); (all_goals try (first | exact z6 rfl | (refine q11 ?_; omega) | (refine z6 ?_; simp; done)))
          exact lle_own rfl rfl (fun k _ => putN_two y (i + 1) i k)
        generalize swp y (i + 1) i = y1 at p1 p2
        unfold paS
        refine awp_mid (fun z : {z : Nat → Nat // PE a b x z ∧ Srt key a (i + 1) z} => paS n gen a b g o (i + 1) j z.val) ?_ ?_
        · by_cases h2 : (i + 1) - a ≥ 2
          · (repeat (first | refine j0 ?_ | refine q7 rfl ?_ | refine z7 rfl ?_ | refine x6 ?_ | (refine z2 fun K hK => ?_) | (refine x4 (by kernel_rfl) (by kernel_rfl) fun K hK => ?_) | ((first | refine j5 ?_ | refine q6 ?_ | ((first | refine z1 (hK _ ?_) | refine q5 (hK _ _ (j4 (by kernel_rfl)) ?_)); clear hK K)); (first | show AWP _ _ _ _ _ | ((try simp only [q8]); first | show loopQ _ _ _ _ _ _ | show cutQ _ _ _ _ | show AWP _ _ _ _ _))) | ((first | refine x7 [] rfl ?_ | refine j7 [] rfl ?_); simp (maxSteps := 2000000) (disch := omega) only [go_sem, seval, pnP, pnM, pnP1, pnM1]; (repeat (first | refine ⟨by omega, ?_⟩ | refine ⟨True.intro, ?_⟩)))))
            refine awp_loop (fun s : {s : Nat × (Nat → Nat) // a ≤ s.1 ∧ s.1 ≤ i ∧ PE a b x s.2 ∧ InsAt key a i s.1 s.2} => paL n gen a b g o (i + 1) j s.val.1 s.val.2) (fun s => s.val.1) ⟨(i, y1), by simp only []; omega, Nat.le_refl _, p1, InsAt.start p2⟩ ?_ (fun s => ?_)
            · unfold paL
              refine Weak.list ?_ ?_; (all_goals simp (disch := omega) only [AllF, AllL, x10, j10, z10, exists_eq_left', Option.some.injEq, go_sem, seval, pnP, pnM, pnP1, pnM1]); (all_goals (repeat' (with_reducible apply And.intro))); (all_goals try (first | exact z6 rfl | (refine q11 ?_; omega) | (refine z6 ?_; simp; done)))
            obtain ⟨⟨k, z⟩, hk1, hk2, hpe, hin⟩ := s
            unfold paL
            simp only [] at hk1 hk2 hpe hin
            by_cases hk0 : k = 0
            · subst hk0
              (repeat (first | refine j0 ?_ | refine q7 rfl ?_ | refine z7 rfl ?_ | refine x6 ?_ | (refine z2 fun K hK => ?_) | (refine x4 (by kernel_rfl) (by kernel_rfl) fun K hK => ?_) | ((first | refine j5 ?_ | refine q6 ?_ | ((first | refine z1 (hK _ ?_) | refine q5 (hK _ _ (j4 (by kernel_rfl)) ?_)); clear hK K)); (first | show AWP _ _ _ _ _ | ((try simp only [q8]); first | show loopQ _ _ _ _ _ _ | show cutQ _ _ _ _ | show AWP _ _ _ _ _))) | ((first | refine x7 [] rfl ?_ | refine j7 [] rfl ?_); simp (maxSteps := 2000000) (disch := omega) only [go_sem, seval, pnP, pnM, pnP1, pnM1]; (repeat (first | refine ⟨by omega, ?_⟩ | refine ⟨True.intro, ?_⟩)))))
              (show cutQ _ _ .normal _); refine cut_n (⟨z, hpe, hin.done hk2 (.inl (by omega))⟩) ?_
              unfold paS
              refine Weak.list ?_ ?_; (all_goals simp (disch := omega) only [AllF, AllL, x10, j10, z10, exists_eq_left', Option.some.injEq, go_sem, seval, pnP, pnM, pnP1, pnM1]); (all_goals (repeat' (with_reducible apply And.intro))); (all_goals try (first | exact z6 rfl | (refine q11 ?_; omega) | (refine z6 ?_; simp; done)))
            · obtain ⟨k, rfl⟩ : ∃ m, k = m + 1 := ⟨k - 1, by omega⟩
              have r1 := rowN_at z (k + 1)
              have r2 := rowN_at z k
              obtain ⟨cc, cl⟩ := lt1 z (k + 1) k hpe (by omega) (by omega)
              have hbz := hbl.pe hpe
              generalize c (z (k + 1)) (z k) = c0 at cc cl
              by_cases hlt : c0 < 0
              · (repeat (first | refine j0 ?_ | refine q7 rfl ?_ | refine z7 rfl ?_ | refine x6 ?_ | (refine z2 fun K hK => ?_) | (refine x4 (by kernel_rfl) (by kernel_rfl) fun K hK => ?_) | ((first | refine j5 ?_ | refine q6 ?_ | ((first | refine z1 (hK _ ?_) | refine q5 (hK _ _ (j4 (by kernel_rfl)) ?_)); clear hK K)); (first | show AWP _ _ _ _ _ | ((try simp only [q8]); first | show loopQ _ _ _ _ _ _ | show cutQ _ _ _ _ | show AWP _ _ _ _ _))) | ((first | refine j9 rfl rfl rfl ?_ | refine q10 rfl rfl rfl ?_); simp (maxSteps := 2000000) (disch := omega) only [go_sem, seval, pnP, pnM, pnP1, pnM1, r1, r2]; (first | refine ⟨_, cc, ?_⟩)) | ((first | refine x7 [] rfl ?_ | refine j7 [] rfl ?_); simp (maxSteps := 2000000) (disch := omega) only [go_sem, seval, pnP, pnM, pnP1, pnM1, r1, r2]; (repeat (first | refine ⟨by omega, ?_⟩ | refine ⟨True.intro, ?_⟩)))))
                have hak : a ≤ k := by
                  refine Nat.le_of_not_lt fun hlt2 => ?_
                  have ea : a = k + 1 := by omega
                  have := hbz (k + 1) (by omega) (by omega) (by omega)
                  rw [ea, Nat.add_sub_cancel] at this
                  have := cl.1 hlt
                  omega
                refine ⟨⟨(k, swap2 z k), by simp only []; omega, by simp only []; omega, hpe.trans (by rw [swap2_swp]; exact PE.swp (by omega) (by omega) (by omega) (by omega)), hin.step (by omega) (by omega) (cl.1 hlt)⟩, by simp only []; omega, ?_⟩
                refine Weak.list ?_ ?_; (all_goals simp (disch := omega) only [AllF, AllL, x10, j10, z10, exists_eq_left', Option.some.injEq, go_sem, seval, pnP, pnM, pnP1, pnM1, r1, r2]); (all_goals (repeat' (with_reducible apply And.intro))); (all_goals try (first | exact z6 rfl | (refine q11 ?_; omega) | (refine z6 ?_; simp; done)))
                exact lle_own rfl rfl (fun m _ => (putN_two z (k + 1) k m).trans (by rw [swap2_swp]))
              · (repeat (first | refine j0 ?_ | refine q7 rfl ?_ | refine z7 rfl ?_ | refine x6 ?_ | (refine z2 fun K hK => ?_) | (refine x4 (by kernel_rfl) (by kernel_rfl) fun K hK => ?_) | ((first | refine j5 ?_ | refine q6 ?_ | ((first | refine z1 (hK _ ?_) | refine q5 (hK _ _ (j4 (by kernel_rfl)) ?_)); clear hK K)); (first | show AWP _ _ _ _ _ | ((try simp only [q8]); first | show loopQ _ _ _ _ _ _ | show cutQ _ _ _ _ | show AWP _ _ _ _ _))) | ((first | refine j9 rfl rfl rfl ?_ | refine q10 rfl rfl rfl ?_); simp (maxSteps := 2000000) (disch := omega) only [go_sem, seval, pnP, pnM, pnP1, pnM1, r1, r2]; (first | refine ⟨_, cc, ?_⟩)) | ((first | refine x7 [] rfl ?_ | refine j7 [] rfl ?_); simp (maxSteps := 2000000) (disch := omega) only [go_sem, seval, pnP, pnM, pnP1, pnM1, r1, r2]; (repeat (first | refine ⟨by omega, ?_⟩ | refine ⟨True.intro, ?_⟩)))))
                (show cutQ _ _ .normal _); refine cut_n (⟨z, hpe, hin.done hk2 (.inr (by have : ¬ key (z (k + 1)) < key (z k) := fun e => hlt (cl.2 e); rw [Nat.add_sub_cancel]; omega))⟩) ?_
                unfold paS
                refine Weak.list ?_ ?_; (all_goals simp (disch := omega) only [AllF, AllL, x10, j10, z10, exists_eq_left', Option.some.injEq, go_sem, seval, pnP, pnM, pnP1, pnM1, r1, r2]); (all_goals (repeat' (with_reducible apply And.intro))); (all_goals try (first | exact z6 rfl | (refine q11 ?_; omega) | (refine z6 ?_; simp; done)))
          · (repeat (first | refine j0 ?_ | refine q7 rfl ?_ | refine z7 rfl ?_ | refine x6 ?_ | (refine z2 fun K hK => ?_) | (refine x4 (by kernel_rfl) (by kernel_rfl) fun K hK => ?_) | ((first | refine j5 ?_ | refine q6 ?_ | ((first | refine z1 (hK _ ?_) | refine q5 (hK _ _ (j4 (by kernel_rfl)) ?_)); clear hK K)); (first | show AWP _ _ _ _ _ | ((try simp only [q8]); first | show loopQ _ _ _ _ _ _ | show cutQ _ _ _ _ | show AWP _ _ _ _ _))) | ((first | refine x7 [] rfl ?_ | refine j7 [] rfl ?_); simp (maxSteps := 2000000) (disch := omega) only [go_sem, seval, pnP, pnM, pnP1, pnM1]; (repeat (first | refine ⟨by omega, ?_⟩ | refine ⟨True.intro, ?_⟩)))))
            (show cutQ _ _ .normal _); refine cut_n (⟨y1, p1, fun p q h1 h2 h3 => by omega⟩) ?_
            unfold paS
            refine Weak.list ?_ ?_; (all_goals simp (disch := omega) only [AllF, AllL, x10, j10, z10, exists_eq_left', Option.some.injEq, go_sem, seval, pnP, pnM, pnP1, pnM1]); (all_goals (repeat' (with_reducible apply And.intro))); (all_goals try (first | exact z6 rfl | (refine q11 ?_; omega) | (refine z6 ?_; simp; done)))
        rintro ⟨z, hz, hz2⟩
        unfold paS
        by_cases h2 : b - (i + 1) ≥ 2
        · (repeat (first | refine j0 ?_ | refine q7 rfl ?_ | refine z7 rfl ?_ | refine x6 ?_ | (refine z2 fun K hK => ?_) | (refine x4 (by kernel_rfl) (by kernel_rfl) fun K hK => ?_) | ((first | refine j5 ?_ | refine q6 ?_ | ((first | refine z1 (hK _ ?_) | refine q5 (hK _ _ (j4 (by kernel_rfl)) ?_)); clear hK K)); (first | show AWP _ _ _ _ _ | ((try simp only [q8]); first | show loopQ _ _ _ _ _ _ | show cutQ _ _ _ _ | show AWP _ _ _ _ _))) | ((first | refine x7 [] rfl ?_ | refine j7 [] rfl ?_); simp (maxSteps := 2000000) (disch := omega) only [go_sem, seval, pnP, pnM, pnP1, pnM1]; (repeat (first | refine ⟨by omega, ?_⟩ | refine ⟨True.intro, ?_⟩)))))
          refine awp_loop (fun s : {s : Nat × (Nat → Nat) // i + 2 ≤ s.1 ∧ s.1 ≤ b ∧ PE a b x s.2 ∧ Srt key a (i + 1) s.2} => paR n gen a b g o (i + 1) j s.val.1 s.val.2) (fun s => b - s.val.1) ⟨(i + 2, z), Nat.le_refl _, by simp only []; omega, hz, hz2⟩ ?_ (fun s => ?_)
          · unfold paR
            refine Weak.list ?_ ?_; (all_goals simp (disch := omega) only [AllF, AllL, x10, j10, z10, exists_eq_left', Option.some.injEq, go_sem, seval, pnP, pnM, pnP1, pnM1]); (all_goals (repeat' (with_reducible apply And.intro))); (all_goals try (first | exact z6 rfl | (refine q11 ?_; omega) | (refine z6 ?_; simp; done)))
          obtain ⟨⟨k, u⟩, hk1, hk2, hpe, hst⟩ := s
          unfold paR
          simp only [] at hk1 hk2 hpe hst
          by_cases hkb : k < b
          · obtain ⟨k, rfl⟩ : ∃ m, k = m + 1 := ⟨k - 1, by omega⟩
            have r1 := rowN_at u (k + 1)
            have r2 := rowN_at u k
            obtain ⟨cc, cl⟩ := lt1 u (k + 1) k hpe (by omega) (by omega)
            generalize c (u (k + 1)) (u k) = c0 at cc cl
            by_cases hlt : c0 < 0
            · (repeat (first | refine j0 ?_ | refine q7 rfl ?_ | refine z7 rfl ?_ | refine x6 ?_ | (refine z2 fun K hK => ?_) | (refine x4 (by kernel_rfl) (by kernel_rfl) fun K hK => ?_) | ((first | refine j5 ?_ | refine q6 ?_ | ((first | refine z1 (hK _ ?_) | refine q5 (hK _ _ (j4 (by kernel_rfl)) ?_)); clear hK K)); (first | show AWP _ _ _ _ _ | ((try simp only [q8]); first | show loopQ _ _ _ _ _ _ | show cutQ _ _ _ _ | show AWP _ _ _ _ _))) | ((first | refine j9 rfl rfl rfl ?_ | refine q10 rfl rfl rfl ?_); simp (maxSteps := 2000000) (disch := omega) only [go_sem, seval, pnP, pnM, pnP1, pnM1, r1, r2]; (first | refine ⟨_, cc, ?_⟩)) | ((first | refine x7 [] rfl ?_ | refine j7 [] rfl ?_); simp (maxSteps := 2000000) (disch := omega) only [go_sem, seval, pnP, pnM, pnP1, pnM1, r1, r2]; (repeat (first | refine ⟨by omega, ?_⟩ | refine ⟨True.intro, ?_⟩)))))
              refine ⟨⟨(k + 2, swp u (k + 1) k), by simp only []; omega, by simp only []; omega, hpe.trans (PE.swp (by omega) (by omega) (by omega) (by omega)), fun p q h1 h2 h3 => by
                simp only []
                rw [swp_o _ (by omega) (by omega), swp_o _ (by omega) (by omega)]; exact hst p q h1 h2 h3⟩, by simp only []; omega, ?_⟩
              refine Weak.list ?_ ?_; (all_goals simp (disch := omega) only [AllF, AllL, x10, j10, z10, exists_eq_left', Option.some.injEq, go_sem, seval, pnP, pnM, pnP1, pnM1, r1, r2]); (all_goals (repeat' (with_reducible apply And.intro))); (all_goals try (first | exact z6 rfl | (refine q11 ?_; omega) | (refine z6 ?_; simp; done)))
              exact lle_own rfl rfl (fun m _ => putN_two u (k + 1) k m)
            · (repeat (first | refine j0 ?_ | refine q7 rfl ?_ | refine z7 rfl ?_ | refine x6 ?_ | (refine z2 fun K hK => ?_) | (refine x4 (by kernel_rfl) (by kernel_rfl) fun K hK => ?_) | ((first | refine j5 ?_ | refine q6 ?_ | ((first | refine z1 (hK _ ?_) | refine q5 (hK _ _ (j4 (by kernel_rfl)) ?_)); clear hK K)); (first | show AWP _ _ _ _ _ | ((try simp only [q8]); first | show loopQ _ _ _ _ _ _ | show cutQ _ _ _ _ | show AWP _ _ _ _ _))) | ((first | refine j9 rfl rfl rfl ?_ | refine q10 rfl rfl rfl ?_); simp (maxSteps := 2000000) (disch := omega) only [go_sem, seval, pnP, pnM, pnP1, pnM1, r1, r2]; (first | refine ⟨_, cc, ?_⟩)) | ((first | refine x7 [] rfl ?_ | refine j7 [] rfl ?_); simp (maxSteps := 2000000) (disch := omega) only [go_sem, seval, pnP, pnM, pnP1, pnM1, r1, r2]; (repeat (first | refine ⟨by omega, ?_⟩ | refine ⟨True.intro, ?_⟩)))))
              refine ⟨⟨(i + 1, j + 1, u), by simp only []; omega, ⟨by omega, by omega, hpe, hst⟩⟩, by simp only []; omega, ?_⟩
              refine Weak.list ?_ ?_; (all_goals simp (disch := omega) only [AllF, AllL, x10, j10, z10, exists_eq_left', Option.some.injEq, go_sem, seval, pnP, pnM, pnP1, pnM1, r1, r2]); (all_goals (repeat' (with_reducible apply And.intro))); (all_goals try (first | exact z6 rfl | (refine q11 ?_; omega) | (refine z6 ?_; simp; done)))
          · (repeat (first | refine j0 ?_ | refine q7 rfl ?_ | refine z7 rfl ?_ | refine x6 ?_ | (refine z2 fun K hK => ?_) | (refine x4 (by kernel_rfl) (by kernel_rfl) fun K hK => ?_) | ((first | refine j5 ?_ | refine q6 ?_ | ((first | refine z1 (hK _ ?_) | refine q5 (hK _ _ (j4 (by kernel_rfl)) ?_)); clear hK K)); (first | show AWP _ _ _ _ _ | ((try simp only [q8]); first | show loopQ _ _ _ _ _ _ | show cutQ _ _ _ _ | show AWP _ _ _ _ _))) | ((first | refine x7 [] rfl ?_ | refine j7 [] rfl ?_); simp (maxSteps := 2000000) (disch := omega) only [go_sem, seval, pnP, pnM, pnP1, pnM1]; (repeat (first | refine ⟨by omega, ?_⟩ | refine ⟨True.intro, ?_⟩)))))
            refine ⟨⟨(i + 1, j + 1, u), by simp only []; omega, ⟨by omega, by omega, hpe, hst⟩⟩, by simp only []; omega, ?_⟩
            refine Weak.list ?_ ?_; (all_goals simp (disch := omega) only [AllF, AllL, x10, j10, z10, exists_eq_left', Option.some.injEq, go_sem, seval, pnP, pnM, pnP1, pnM1]); (all_goals (repeat' (with_reducible apply And.intro))); (all_goals try (first | exact z6 rfl | (refine q11 ?_; omega) | (refine z6 ?_; simp; done)))
        · (repeat (first | refine j0 ?_ | refine q7 rfl ?_ | refine z7 rfl ?_ | refine x6 ?_ | (refine z2 fun K hK => ?_) | (refine x4 (by kernel_rfl) (by kernel_rfl) fun K hK => ?_) | ((first | refine j5 ?_ | refine q6 ?_ | ((first | refine z1 (hK _ ?_) | refine q5 (hK _ _ (j4 (by kernel_rfl)) ?_)); clear hK K)); (first | show AWP _ _ _ _ _ | ((try simp only [q8]); first | show loopQ _ _ _ _ _ _ | show cutQ _ _ _ _ | show AWP _ _ _ _ _))) | ((first | refine x7 [] rfl ?_ | refine j7 [] rfl ?_); simp (maxSteps := 2000000) (disch := omega) only [go_sem, seval, pnP, pnM, pnP1, pnM1]; (repeat (first | refine ⟨by omega, ?_⟩ | refine ⟨True.intro, ?_⟩)))))
          refine ⟨⟨(i + 1, j + 1, z), by simp only []; omega, ⟨by omega, by omega, hz, hz2⟩⟩, by simp only []; omega, ?_⟩
          refine Weak.list ?_ ?_; (all_goals simp (disch := omega) only [AllF, AllL, x10, j10, z10, exists_eq_left', Option.some.injEq, go_sem, seval, pnP, pnM, pnP1, pnM1]); (all_goals (repeat' (with_reducible apply And.intro))); (all_goals try (first | exact z6 rfl | (refine q11 ?_; omega) | (refine z6 ?_; simp; done)))
  · (repeat (first | refine j0 ?_ | refine q7 rfl ?_ | refine z7 rfl ?_ | refine x6 ?_ | (refine z2 fun K hK => ?_) | (refine x4 (by kernel_rfl) (by kernel_rfl) fun K hK => ?_) | ((first | refine j5 ?_ | refine q6 ?_ | ((first | refine z1 (hK _ ?_) | refine q5 (hK _ _ (j4 (by kernel_rfl)) ?_)); clear hK K)); (first | show AWP _ _ _ _ _ | ((try simp only [q8]); first | show loopQ _ _ _ _ _ _ | show cutQ _ _ _ _ | show AWP _ _ _ _ _))) | ((first | refine x7 [] rfl ?_ | refine j7 [] rfl ?_); simp (maxSteps := 2000000) (disch := omega) only [go_sem, seval, pnP, pnM, pnP1, pnM1]; (repeat (first | refine ⟨by omega, ?_⟩ | refine ⟨True.intro, ?_⟩)))))
    exact x9 (retM_of [_] [(1000, _)] ⟨rfl, trivial⟩ (by simp [AL.look] <;> first | rfl | exact ⟨rfl, rfl⟩) ⟨⟨(false, y), hs.pe, fun h => by cases h⟩, rfl, rfl⟩)
end Go.Proofs.Ytbiildleaelodaa
set_option linter.unusedSimpArgs false
set_option linter.unusedVariables false
namespace Go.Proofs.Ytbiildleaelodaa
open Go.Proofs.Ytbiildleaelodaa.AL
structure PD (key : Nat → Int) (n N a b : Nat) (x : Nat → Nat) (a' b' : Nat) (y : Nat → Nat) : Prop where
  h1 : a ≤ a'
  h2 : a' ≤ b'
  h3 : b' ≤ b
  pe : PE a b x y
  bl : Blw key a' b' y
  fin : ∀ z, PE a' b' y z → Srt key a' b' z → Srt key a b z
theorem PD.pe' {key : Nat → Int} {n N a b a' b' : Nat} {x y z : Nat → Nat} (h : PD key n N a b x a' b' y) (hp : PE a' b' y z) : PD key n N a b x a' b' z :=
  ⟨h.h1, h.h2, h.h3, h.pe.trans (hp.widen h.h1 h.h2 h.h3), h.bl.pe hp, fun u h1 h2 => h.fin u (hp.trans h1) h2⟩
theorem PD.left {key : Nat → Int} {n N a b a' b' m : Nat} {x y z : Nat → Nat} (h : PD key n N a b x a' b' y) (hm : a' ≤ m) (hm2 : m < b') (hp : Prt key a' m b' y) (h1 : PE a' m y z) (h2 : Srt key a' m z) : PD key n N a b x (m + 1) b' z := by
  have hpz := hp.pe h1 (.inl ⟨Nat.le_refl _, hm, Nat.le_refl _⟩)
  have g1 := h.h1; have g3 := h.h3
  refine ⟨by omega, by omega, g3, h.pe.trans (h1.widen g1 hm (by omega)), fun k k0 k1 k2 => by rw [Nat.add_sub_cancel]; exact hpz.hi k (by omega) k2, fun u u1 u2 => ?_⟩
  refine h.fin u ((h1.widen (Nat.le_refl _) hm (by omega)).trans (u1.widen (by omega) (by omega) (Nat.le_refl _))) ?_
  refine (hpz.pe u1 (.inr ⟨by omega, by omega, Nat.le_refl _⟩)).srt (fun p q q1 q2 q3 => ?_) u2 hm
  rw [u1.out p (by omega), u1.out q (by omega)]
  exact h2 p q q1 q2 q3
theorem PD.right {key : Nat → Int} {n N a b a' b' m : Nat} {x y z : Nat → Nat} (h : PD key n N a b x a' b' y) (hm : a' ≤ m) (hm2 : m < b') (hp : Prt key a' m b' y) (h1 : PE (m + 1) b' y z) (h2 : Srt key (m + 1) b' z) : PD key n N a b x a' m z := by
  have hpz := hp.pe h1 (.inr ⟨by omega, by omega, Nat.le_refl _⟩)
  have g1 := h.h1; have g3 := h.h3
  refine ⟨g1, hm, by omega, h.pe.trans (h1.widen (by omega) (by omega) g3), fun k k0 k1 k2 => ?_, fun u u1 u2 => ?_⟩
  · rw [h1.out (a' - 1) (by omega), h1.out k (by omega)]
    exact h.bl k k0 k1 (by omega)
  · refine h.fin u ((h1.widen (by omega) (by omega) (Nat.le_refl _)).trans (u1.widen (Nat.le_refl _) hm (by omega))) ?_
    refine (hpz.pe u1 (.inl ⟨Nat.le_refl _, hm, Nat.le_refl _⟩)).srt u2 (fun p q q1 q2 q3 => ?_) hm
    rw [u1.out p (by omega), u1.out q (by omega)]
    exact h2 p q q1 q2 q3
def pdS (n gen : Nat) (g : FuncId) (o : PV) (a b : Nat) (lim : Int) (wb wp : Bool) (y : Nat → Nat) : ASt :=
  ⟨[(11, .p (.d (.v (.bool wp)))), (10, .p (.d (.v (.bool wb)))), (4, .p (.fn (.func g) [o] [])), (3, .p (.d (.v (.int .i64 lim)))), (2, .p (.d (.v (.int .i64 (b : Int))))), (1, .p (.d (.v (.int .i64 (a : Int))))), (0, .ow 1000 gen 1 n)],
   [(1000, .own 3 1 n gen (rowN y))]⟩
def pdT (n gen : Nat) (g : FuncId) (o : PV) (a b : Nat) (lim : Int) (wb wp : Bool) (p : Nat) (hint : Int) (y : Nat → Nat) : ASt :=
  ⟨[(14, .p (.d (.v (.int .i64 hint)))), (13, .p (.d (.v (.int .i64 (p : Int))))), (12, .p (.d (.v (.int .i64 ((b : Int) - a))))), (11, .p (.d (.v (.bool wp)))), (10, .p (.d (.v (.bool wb)))), (4, .p (.fn (.func g) [o] [])), (3, .p (.d (.v (.int .i64 lim)))), (2, .p (.d (.v (.int .i64 (b : Int))))), (1, .p (.d (.v (.int .i64 (a : Int))))), (0, .ow 1000 gen 1 n)],
   [(1000, .own 3 1 n gen (rowN y))]⟩
def pdM (n gen : Nat) (g : FuncId) (o : PV) (a b : Nat) (lim : Int) (wb wp : Bool) (y : Nat → Nat) : ASt :=
  ⟨[(12, .p (.d (.v (.int .i64 ((b : Int) - a))))), (11, .p (.d (.v (.bool wp)))), (10, .p (.d (.v (.bool wb)))), (4, .p (.fn (.func g) [o] [])), (3, .p (.d (.v (.int .i64 lim)))), (2, .p (.d (.v (.int .i64 (b : Int))))), (1, .p (.d (.v (.int .i64 (a : Int))))), (0, .ow 1000 gen 1 n)],
   [(1000, .own 3 1 n gen (rowN y))]⟩
set_option maxRecDepth 100000 in
set_option maxHeartbeats 8000000 in
theorem pdq_c {key : Nat → Int} {c : Nat → Nat → Int} {g : FuncId} {o : PV} {N : Nat} (hc : CmpN Try.prog g o N key c) (n gen : Nat) (hn : n ≤ 1099511627776) : ∀ (k : Nat) (x : Nat → Nat) (a b : Nat) (ai bi lim : Int), b - a ≤ k → ai = a → bi = b → a ≤ b → b ≤ n → Dom n N x → Blw key a b x → 0 ≤ lim → lim ≤ 1000 →
    MCalls Try.prog 84 [.ow 1000 gen 1 n, .p (.d (.v (.int .i64 ai))), .p (.d (.v (.int .i64 bi))), .p (.d (.v (.int .i64 lim))), .p (.fn (.func g) [o] [])] [(1000, .own 3 1 n gen (rowN x))]
      (fun rs M => ∃ y : {y : Nat → Nat // PE a b x y ∧ Srt key a b y}, rs = [] ∧ M = [(1000, .own 3 1 n gen (rowN y.val))]) := by
  intro k
  induction k using Nat.strongRecOn with
  | _ k ih =>
  intro x a b ai bi lim0 hk ha' hb' hab hb hx hbl hl0 hl1
  subst ha' hb'
  refine mcalls_of_awp Try.func84 rfl (by decide +kernel) (by rw [Try.ntmps84]; simp) (fun l X h => by simp only [AL.look] at h; (repeat' split at h); all_goals first | omega | cases h) ?_; rw [Try.ntmps84]; simp only [frA]
  (repeat (first | refine j0 ?_ | refine q7 rfl ?_ | refine z7 rfl ?_ | refine x6 ?_ | (refine z2 fun K hK => ?_) | (refine x4 (by kernel_rfl) (by kernel_rfl) fun K hK => ?_) | ((first | refine j5 ?_ | refine q6 ?_ | ((first | refine z1 (hK _ ?_) | refine q5 (hK _ _ (j4 (by kernel_rfl)) ?_)); clear hK K)); (first | show AWP _ _ _ _ _ | ((try simp only [q8]); first | show loopQ _ _ _ _ _ _ | show cutQ _ _ _ _ | show AWP _ _ _ _ _))) | ((first | refine x7 [] rfl ?_ | refine j7 [] rfl ?_); simp (maxSteps := 2000000) (disch := omega) only [go_sem, seval, pnP, pnM, pnP1, pnM1]; (repeat (first | refine ⟨by omega, ?_⟩ | refine ⟨True.intro, ?_⟩)))))
  refine awp_loop (fun s : {s : Nat × Nat × Int × Bool × Bool × (Nat → Nat) // 0 ≤ s.2.2.1 ∧ s.2.2.1 ≤ 1000 ∧ PD key n N a b x s.1 s.2.1 s.2.2.2.2.2} => pdS n gen g o s.val.1 s.val.2.1 s.val.2.2.1 s.val.2.2.2.1 s.val.2.2.2.2.1 s.val.2.2.2.2.2) (fun s => s.val.2.1 - s.val.1) ⟨(a, b, lim0, true, true, x), hl0, hl1, ⟨Nat.le_refl _, hab, Nat.le_refl _, PE.refl _ _ _, hbl, fun z _ h => h⟩⟩ ?_ (fun s => ?_)
  · unfold pdS
    refine Weak.list ?_ ?_; (all_goals simp (disch := omega) only [AllF, AllL, x10, j10, z10, exists_eq_left', Option.some.injEq, go_sem, seval, pnP, pnM, pnP1, pnM1]); (all_goals (repeat' (with_reducible apply And.intro))); (all_goals try (first | exact z6 rfl | (refine q11 ?_; omega) | (refine z6 ?_; simp; done)))
  obtain ⟨⟨a1, b1, lim, wb, wp, y⟩, l0, l1, hs⟩ := s
  unfold pdS
  simp only [] at l0 l1 hs
  have g1 := hs.h1; have g2 := hs.h2; have g3 := hs.h3
  have dy := hx.pe hs.pe hab hb
  by_cases h12 : b1 - a1 ≤ 12
  · (repeat (first | refine j0 ?_ | refine q7 rfl ?_ | refine z7 rfl ?_ | refine x6 ?_ | (refine z2 fun K hK => ?_) | (refine x4 (by kernel_rfl) (by kernel_rfl) fun K hK => ?_) | ((first | refine j5 ?_ | refine q6 ?_ | ((first | refine z1 (hK _ ?_) | refine q5 (hK _ _ (j4 (by kernel_rfl)) ?_)); clear hK K)); (first | show AWP _ _ _ _ _ | ((try simp only [q8]); first | show loopQ _ _ _ _ _ _ | show cutQ _ _ _ _ | show AWP _ _ _ _ _))) | ((first | refine x7 [] rfl ?_ | refine j7 [] rfl ?_); simp (maxSteps := 2000000) (disch := omega) only [go_sem, seval, pnP, pnM, pnP1, pnM1]; (repeat (first | refine ⟨by omega, ?_⟩ | refine ⟨True.intro, ?_⟩)))))
    (refine walkS_ex (step_mcallX [(1000, 1000)] rfl rfl rfl rfl rfl rfl (insN_c hc y n gen a1 b1 a1 b1 rfl rfl g2 (by omega) hn dy) (fun _ => rfl) (j11 (by repeat (first | exact trivial | refine ⟨rfl, ?_⟩)) (by kernel_rfl)) (fun _ => (j11 (by repeat (first | exact trivial | refine ⟨rfl, ?_⟩)) (by kernel_rfl)))) ?_); rintro ⟨z,hz,hz2⟩; simp (maxSteps := 2000000) (disch := omega) only [go_sem, seval, pnP, pnM, pnP1, pnM1]
    (repeat (first | refine j0 ?_ | refine q7 rfl ?_ | refine z7 rfl ?_ | refine x6 ?_ | (refine z2 fun K hK => ?_) | (refine x4 (by kernel_rfl) (by kernel_rfl) fun K hK => ?_) | ((first | refine j5 ?_ | refine q6 ?_ | ((first | refine z1 (hK _ ?_) | refine q5 (hK _ _ (j4 (by kernel_rfl)) ?_)); clear hK K)); (first | show AWP _ _ _ _ _ | ((try simp only [q8]); first | show loopQ _ _ _ _ _ _ | show cutQ _ _ _ _ | show AWP _ _ _ _ _))) | ((first | refine x7 [] rfl ?_ | refine j7 [] rfl ?_); simp (maxSteps := 2000000) (disch := omega) only [go_sem, seval, pnP, pnM, pnP1, pnM1]; (repeat (first | refine ⟨by omega, ?_⟩ | refine ⟨True.intro, ?_⟩)))))
    (first | (refine z1 (hK _ ?_); refine And.left (retM_void (l := 1000) rfl rfl ?_)) | (refine q6 ?_; refine And.left (retM_void (l := 1000) rfl rfl ?_)) | (refine j5 ?_; refine And.left (retM_void (l := 1000) rfl rfl ?_)) | (refine x9 ?_; refine And.right (retM_void (l := 1000) rfl rfl ?_)) | refine And.left (retM_void (l := 1000) rfl rfl ?_))
    exact ⟨⟨z, hs.pe.trans (hz.widen g1 g2 g3), hs.fin z hz hz2⟩, rfl, rfl⟩
  by_cases hlim : lim = 0
  · subst hlim
    (repeat (first | refine j0 ?_ | refine q7 rfl ?_ | refine z7 rfl ?_ | refine x6 ?_ | (refine z2 fun K hK => ?_) | (refine x4 (by kernel_rfl) (by kernel_rfl) fun K hK => ?_) | ((first | refine j5 ?_ | refine q6 ?_ | ((first | refine z1 (hK _ ?_) | refine q5 (hK _ _ (j4 (by kernel_rfl)) ?_)); clear hK K)); (first | show AWP _ _ _ _ _ | ((try simp only [q8]); first | show loopQ _ _ _ _ _ _ | show cutQ _ _ _ _ | show AWP _ _ _ _ _))) | ((first | refine x7 [] rfl ?_ | refine j7 [] rfl ?_); simp (maxSteps := 2000000) (disch := omega) only [go_sem, seval, pnP, pnM, pnP1, pnM1]; (repeat (first | refine ⟨by omega, ?_⟩ | refine ⟨True.intro, ?_⟩)))))
    (refine walkS_ex (step_mcallX [(1000, 1000)] rfl rfl rfl rfl rfl rfl (heapN_c hc y n gen a1 b1 a1 b1 rfl rfl (by omega) (by omega) hn dy) (fun _ => rfl) (j11 (by repeat (first | exact trivial | refine ⟨rfl, ?_⟩)) (by kernel_rfl)) (fun _ => (j11 (by repeat (first | exact trivial | refine ⟨rfl, ?_⟩)) (by kernel_rfl)))) ?_); rintro ⟨z,hz,hz2⟩; simp (maxSteps := 2000000) (disch := omega) only [go_sem, seval, pnP, pnM, pnP1, pnM1]
    (repeat (first | refine j0 ?_ | refine q7 rfl ?_ | refine z7 rfl ?_ | refine x6 ?_ | (refine z2 fun K hK => ?_) | (refine x4 (by kernel_rfl) (by kernel_rfl) fun K hK => ?_) | ((first | refine j5 ?_ | refine q6 ?_ | ((first | refine z1 (hK _ ?_) | refine q5 (hK _ _ (j4 (by kernel_rfl)) ?_)); clear hK K)); (first | show AWP _ _ _ _ _ | ((try simp only [q8]); first | show loopQ _ _ _ _ _ _ | show cutQ _ _ _ _ | show AWP _ _ _ _ _))) | ((first | refine x7 [] rfl ?_ | refine j7 [] rfl ?_); simp (maxSteps := 2000000) (disch := omega) only [go_sem, seval, pnP, pnM, pnP1, pnM1]; (repeat (first | refine ⟨by omega, ?_⟩ | refine ⟨True.intro, ?_⟩)))))
    (first | (refine z1 (hK _ ?_); refine And.left (retM_void (l := 1000) rfl rfl ?_)) | (refine q6 ?_; refine And.left (retM_void (l := 1000) rfl rfl ?_)) | (refine j5 ?_; refine And.left (retM_void (l := 1000) rfl rfl ?_)) | (refine x9 ?_; refine And.right (retM_void (l := 1000) rfl rfl ?_)) | refine And.left (retM_void (l := 1000) rfl rfl ?_))
    exact ⟨⟨z, hs.pe.trans (hz.widen g1 g2 g3), hs.fin z hz hz2⟩, rfl, rfl⟩
  have qlim : (lim == 0) = false := ieq_ff hlim
  (repeat ((fail_if_success (show AWP _ _ (.region 7 _ _) _ _)); first | refine j0 ?_ | refine q7 rfl ?_ | refine z7 rfl ?_ | refine x6 ?_ | (refine z2 fun K hK => ?_) | (refine x4 (by kernel_rfl) (by kernel_rfl) fun K hK => ?_) | ((first | refine j5 ?_ | refine q6 ?_ | ((first | refine z1 (hK _ ?_) | refine q5 (hK _ _ (j4 (by kernel_rfl)) ?_)); clear hK K)); (first | show AWP _ _ _ _ _ | ((try simp only [q8]); first | show loopQ _ _ _ _ _ _ | show cutQ _ _ _ _ | show AWP _ _ _ _ _))) | ((first | refine x7 [] rfl ?_ | refine j7 [] rfl ?_); simp (maxSteps := 2000000) (disch := omega) only [go_sem, seval, pnP, pnM, pnP1, pnM1, qlim]; (repeat (first | refine ⟨by omega, ?_⟩ | refine ⟨True.intro, ?_⟩)))))
  refine awp_weak (A' := pdM n gen g o a1 b1 lim wb wp y) ?_ ?_
  · unfold pdM
    refine Weak.list ?_ ?_; (all_goals simp (disch := omega) only [AllF, AllL, x10, j10, z10, exists_eq_left', Option.some.injEq, go_sem, seval, pnP, pnM, pnP1, pnM1, qlim]); (all_goals (repeat' (with_reducible apply And.intro))); (all_goals try (first | exact z6 rfl | (refine q11 ?_; omega) | (refine z6 ?_; simp; done)))
  unfold pdM
  refine awp_mid (fun s : {s : Int × (Nat → Nat) // 0 ≤ s.1 ∧ s.1 ≤ 1000 ∧ PD key n N a b x a1 b1 s.2} => pdM n gen g o a1 b1 s.val.1 wb wp s.val.2) ?_ ?_
  · cases wb
    · (repeat (first | refine j0 ?_ | refine q7 rfl ?_ | refine z7 rfl ?_ | refine x6 ?_ | (refine z2 fun K hK => ?_) | (refine x4 (by kernel_rfl) (by kernel_rfl) fun K hK => ?_) | ((first | refine j5 ?_ | refine q6 ?_ | ((first | refine z1 (hK _ ?_) | refine q5 (hK _ _ (j4 (by kernel_rfl)) ?_)); clear hK K)); (first | show AWP _ _ _ _ _ | ((try simp only [q8]); first | show loopQ _ _ _ _ _ _ | show cutQ _ _ _ _ | show AWP _ _ _ _ _))) | ((first | refine x7 [] rfl ?_ | refine j7 [] rfl ?_); simp (maxSteps := 2000000) (disch := omega) only [go_sem, seval, pnP, pnM, pnP1, pnM1]; (repeat (first | refine ⟨by omega, ?_⟩ | refine ⟨True.intro, ?_⟩)))))
      (refine walkS_ex (step_mcallX [(1000, 1000)] rfl rfl rfl rfl rfl rfl (break_c (.fn (.func g) [o] []) y n gen a1 b1 (by omega) (by omega) hn) (fun _ => rfl) (j11 (by repeat (first | exact trivial | refine ⟨rfl, ?_⟩)) (by kernel_rfl)) (fun _ => (j11 (by repeat (first | exact trivial | refine ⟨rfl, ?_⟩)) (by kernel_rfl)))) ?_); rintro ⟨z,hz⟩; simp (maxSteps := 2000000) (disch := omega) only [go_sem, seval, pnP, pnM, pnP1, pnM1]
      (repeat (first | refine j0 ?_ | refine q7 rfl ?_ | refine z7 rfl ?_ | refine x6 ?_ | (refine z2 fun K hK => ?_) | (refine x4 (by kernel_rfl) (by kernel_rfl) fun K hK => ?_) | ((first | refine j5 ?_ | refine q6 ?_ | ((first | refine z1 (hK _ ?_) | refine q5 (hK _ _ (j4 (by kernel_rfl)) ?_)); clear hK K)); (first | show AWP _ _ _ _ _ | ((try simp only [q8]); first | show loopQ _ _ _ _ _ _ | show cutQ _ _ _ _ | show AWP _ _ _ _ _))) | ((first | refine x7 [] rfl ?_ | refine j7 [] rfl ?_); simp (maxSteps := 2000000) (disch := omega) only [go_sem, seval, pnP, pnM, pnP1, pnM1]; (repeat (first | refine ⟨by omega, ?_⟩ | refine ⟨True.intro, ?_⟩)))))
      (show cutQ _ _ .normal _); refine cut_n (⟨(lim - 1, z), by simp only []; omega, by simp only []; omega, hs.pe' hz⟩) ?_
      unfold pdM
      refine Weak.list ?_ ?_; (all_goals simp (disch := omega) only [AllF, AllL, x10, j10, z10, exists_eq_left', Option.some.injEq, go_sem, seval, pnP, pnM, pnP1, pnM1]); (all_goals (repeat' (with_reducible apply And.intro))); (all_goals try (first | exact z6 rfl | (refine q11 ?_; omega) | (refine z6 ?_; simp; done)))
    · (repeat (first | refine j0 ?_ | refine q7 rfl ?_ | refine z7 rfl ?_ | refine x6 ?_ | (refine z2 fun K hK => ?_) | (refine x4 (by kernel_rfl) (by kernel_rfl) fun K hK => ?_) | ((first | refine j5 ?_ | refine q6 ?_ | ((first | refine z1 (hK _ ?_) | refine q5 (hK _ _ (j4 (by kernel_rfl)) ?_)); clear hK K)); (first | show AWP _ _ _ _ _ | ((try simp only [q8]); first | show loopQ _ _ _ _ _ _ | show cutQ _ _ _ _ | show AWP _ _ _ _ _))) | ((first | refine x7 [] rfl ?_ | refine j7 [] rfl ?_); simp (maxSteps := 2000000) (disch := omega) only [go_sem, seval, pnP, pnM, pnP1, pnM1]; (repeat (first | refine ⟨by omega, ?_⟩ | refine ⟨True.intro, ?_⟩)))))
      (show cutQ _ _ .normal _); refine cut_n (⟨(lim, y), l0, l1, hs⟩) ?_
      unfold pdM
      refine Weak.list ?_ ?_; (all_goals simp (disch := omega) only [AllF, AllL, x10, j10, z10, exists_eq_left', Option.some.injEq, go_sem, seval, pnP, pnM, pnP1, pnM1]); (all_goals (repeat' (with_reducible apply And.intro))); (all_goals try (first | exact z6 rfl | (refine q11 ?_; omega) | (refine z6 ?_; simp; done)))
  rintro ⟨⟨lim, y⟩, l0, l1, hs⟩
  unfold pdM
  simp only [] at l0 l1 hs ⊢
  have dy := hx.pe hs.pe hab hb
  (repeat (first | refine j0 ?_ | refine q7 rfl ?_ | refine z7 rfl ?_ | refine x6 ?_ | (refine z2 fun K hK => ?_) | (refine x4 (by kernel_rfl) (by kernel_rfl) fun K hK => ?_) | ((first | refine j5 ?_ | refine q6 ?_ | ((first | refine z1 (hK _ ?_) | refine q5 (hK _ _ (j4 (by kernel_rfl)) ?_)); clear hK K)); (first | show AWP _ _ _ _ _ | ((try simp only [q8]); first | show loopQ _ _ _ _ _ _ | show cutQ _ _ _ _ | show AWP _ _ _ _ _))) | ((first | refine x7 [] rfl ?_ | refine j7 [] rfl ?_); simp (maxSteps := 2000000) (disch := omega) only [go_sem, seval, pnP, pnM, pnP1, pnM1]; (repeat (first | refine ⟨by omega, ?_⟩ | refine ⟨True.intro, ?_⟩)))))
  (refine walkS_ex (step_mcallX [(1000, 1000)] rfl rfl rfl rfl rfl rfl (choose_c hc y n gen a1 b1 (by omega) (by omega) hn dy) (fun _ => rfl) (j11 (by repeat (first | exact trivial | refine ⟨rfl, ?_⟩)) (by kernel_rfl)) (fun _ => (j11 (by repeat (first | exact trivial | refine ⟨rfl, ?_⟩)) (by kernel_rfl)))) ?_); rintro ⟨⟨p,hint⟩,hp1,hp2,hh⟩; simp (maxSteps := 2000000) (disch := omega) only [go_sem, seval, pnP, pnM, pnP1, pnM1]
  simp only [] at hp1 hp2 hh
  (repeat ((fail_if_success (show AWP _ _ (.region 11 _ _) _ _)); first | refine j0 ?_ | refine q7 rfl ?_ | refine z7 rfl ?_ | refine x6 ?_ | (refine z2 fun K hK => ?_) | (refine x4 (by kernel_rfl) (by kernel_rfl) fun K hK => ?_) | ((first | refine j5 ?_ | refine q6 ?_ | ((first | refine z1 (hK _ ?_) | refine q5 (hK _ _ (j4 (by kernel_rfl)) ?_)); clear hK K)); (first | show AWP _ _ _ _ _ | ((try simp only [q8]); first | show loopQ _ _ _ _ _ _ | show cutQ _ _ _ _ | show AWP _ _ _ _ _))) | ((first | refine x7 [] rfl ?_ | refine j7 [] rfl ?_); simp (maxSteps := 2000000) (disch := omega) only [go_sem, seval, pnP, pnM, pnP1, pnM1]; (repeat (first | refine ⟨by omega, ?_⟩ | refine ⟨True.intro, ?_⟩)))))
  refine awp_weak (A' := pdT n gen g o a1 b1 lim wb wp p hint y) ?_ ?_
  · unfold pdT
    refine Weak.list ?_ ?_; (all_goals simp (disch := omega) only [AllF, AllL, x10, j10, z10, exists_eq_left', Option.some.injEq, go_sem, seval, pnP, pnM, pnP1, pnM1]); (all_goals (repeat' (with_reducible apply And.intro))); (all_goals try (first | exact z6 rfl | (refine q11 ?_; omega) | (refine z6 ?_; simp; done)))
  unfold pdT
  refine awp_mid (fun s : {s : Nat × Int × (Nat → Nat) // a1 ≤ s.1 ∧ s.1 < b1 ∧ (s.2.1 = 0 ∨ s.2.1 = 1) ∧ PD key n N a b x a1 b1 s.2.2} => pdT n gen g o a1 b1 lim wb wp s.val.1 s.val.2.1 s.val.2.2) ?_ ?_
  · rcases hh with rfl | rfl | rfl
    · (repeat (first | refine j0 ?_ | refine q7 rfl ?_ | refine z7 rfl ?_ | refine x6 ?_ | (refine z2 fun K hK => ?_) | (refine x4 (by kernel_rfl) (by kernel_rfl) fun K hK => ?_) | ((first | refine j5 ?_ | refine q6 ?_ | ((first | refine z1 (hK _ ?_) | refine q5 (hK _ _ (j4 (by kernel_rfl)) ?_)); clear hK K)); (first | show AWP _ _ _ _ _ | ((try simp only [q8]); first | show loopQ _ _ _ _ _ _ | show cutQ _ _ _ _ | show AWP _ _ _ _ _))) | ((first | refine x7 [] rfl ?_ | refine j7 [] rfl ?_); simp (maxSteps := 2000000) (disch := omega) only [go_sem, seval, pnP, pnM, pnP1, pnM1]; (repeat (first | refine ⟨by omega, ?_⟩ | refine ⟨True.intro, ?_⟩)))))
      (show cutQ _ _ .normal _); refine cut_n (⟨(p, 0, y), hp1, hp2, .inl rfl, hs⟩) ?_
      unfold pdT
      refine Weak.list ?_ ?_; (all_goals simp (disch := omega) only [AllF, AllL, x10, j10, z10, exists_eq_left', Option.some.injEq, go_sem, seval, pnP, pnM, pnP1, pnM1]); (all_goals (repeat' (with_reducible apply And.intro))); (all_goals try (first | exact z6 rfl | (refine q11 ?_; omega) | (refine z6 ?_; simp; done)))
    · (repeat (first | refine j0 ?_ | refine q7 rfl ?_ | refine z7 rfl ?_ | refine x6 ?_ | (refine z2 fun K hK => ?_) | (refine x4 (by kernel_rfl) (by kernel_rfl) fun K hK => ?_) | ((first | refine j5 ?_ | refine q6 ?_ | ((first | refine z1 (hK _ ?_) | refine q5 (hK _ _ (j4 (by kernel_rfl)) ?_)); clear hK K)); (first | show AWP _ _ _ _ _ | ((try simp only [q8]); first | show loopQ _ _ _ _ _ _ | show cutQ _ _ _ _ | show AWP _ _ _ _ _))) | ((first | refine x7 [] rfl ?_ | refine j7 [] rfl ?_); simp (maxSteps := 2000000) (disch := omega) only [go_sem, seval, pnP, pnM, pnP1, pnM1]; (repeat (first | refine ⟨by omega, ?_⟩ | refine ⟨True.intro, ?_⟩)))))
      (show cutQ _ _ .normal _); refine cut_n (⟨(p, 1, y), hp1, hp2, .inr rfl, hs⟩) ?_
      unfold pdT
      refine Weak.list ?_ ?_; (all_goals simp (disch := omega) only [AllF, AllL, x10, j10, z10, exists_eq_left', Option.some.injEq, go_sem, seval, pnP, pnM, pnP1, pnM1]); (all_goals (repeat' (with_reducible apply And.intro))); (all_goals try (first | exact z6 rfl | (refine q11 ?_; omega) | (refine z6 ?_; simp; done)))
    · (repeat (first | refine j0 ?_ | refine q7 rfl ?_ | refine z7 rfl ?_ | refine x6 ?_ | (refine z2 fun K hK => ?_) | (refine x4 (by kernel_rfl) (by kernel_rfl) fun K hK => ?_) | ((first | refine j5 ?_ | refine q6 ?_ | ((first | refine z1 (hK _ ?_) | refine q5 (hK _ _ (j4 (by kernel_rfl)) ?_)); clear hK K)); (first | show AWP _ _ _ _ _ | ((try simp only [q8]); first | show loopQ _ _ _ _ _ _ | show cutQ _ _ _ _ | show AWP _ _ _ _ _))) | ((first | refine x7 [] rfl ?_ | refine j7 [] rfl ?_); simp (maxSteps := 2000000) (disch := omega) only [go_sem, seval, pnP, pnM, pnP1, pnM1]; (repeat (first | refine ⟨by omega, ?_⟩ | refine ⟨True.intro, ?_⟩)))))
      (refine walkS_ex (step_mcallX [(1000, 1000)] rfl rfl rfl rfl rfl rfl (reverse_c (.fn (.func g) [o] []) y n gen a1 b1 (by omega) (by omega) hn) (fun _ => rfl) (j11 (by repeat (first | exact trivial | refine ⟨rfl, ?_⟩)) (by kernel_rfl)) (fun _ => (j11 (by repeat (first | exact trivial | refine ⟨rfl, ?_⟩)) (by kernel_rfl)))) ?_); rintro ⟨z,hz⟩; simp (maxSteps := 2000000) (disch := omega) only [go_sem, seval, pnP, pnM, pnP1, pnM1]
      (repeat (first | refine j0 ?_ | refine q7 rfl ?_ | refine z7 rfl ?_ | refine x6 ?_ | (refine z2 fun K hK => ?_) | (refine x4 (by kernel_rfl) (by kernel_rfl) fun K hK => ?_) | ((first | refine j5 ?_ | refine q6 ?_ | ((first | refine z1 (hK _ ?_) | refine q5 (hK _ _ (j4 (by kernel_rfl)) ?_)); clear hK K)); (first | show AWP _ _ _ _ _ | ((try simp only [q8]); first | show loopQ _ _ _ _ _ _ | show cutQ _ _ _ _ | show AWP _ _ _ _ _))) | ((first | refine x7 [] rfl ?_ | refine j7 [] rfl ?_); simp (maxSteps := 2000000) (disch := omega) only [go_sem, seval, pnP, pnM, pnP1, pnM1]; (repeat (first | refine ⟨by omega, ?_⟩ | refine ⟨True.intro, ?_⟩)))))
      (show cutQ _ _ .normal _); refine cut_n (⟨(b1 - 1 - (p - a1), 1, z), by simp only []; omega, by simp only []; omega, .inr rfl, hs.pe' hz⟩) ?_
      unfold pdT
      refine Weak.list ?_ ?_; (all_goals simp (disch := omega) only [AllF, AllL, x10, j10, z10, exists_eq_left', Option.some.injEq, go_sem, seval, pnP, pnM, pnP1, pnM1]); (all_goals (repeat' (with_reducible apply And.intro))); (all_goals try (first | exact z6 rfl | (refine q11 ?_; omega) | (refine z6 ?_; simp; done)))
  rintro ⟨⟨p, hint, y⟩, hp1, hp2, hh, hs⟩
  unfold pdT
  simp only [] at hp1 hp2 hh hs ⊢
  have dy := hx.pe hs.pe hab hb
  refine j0 ?_
  refine j0 ?_
  refine awp_mid (fun z : {z : Nat → Nat // PD key n N a b x a1 b1 z} => pdT n gen g o a1 b1 lim wb wp p hint z.val) ?_ ?_
  · by_cases hw : wb = true ∧ wp = true ∧ hint = 1
    · obtain ⟨rfl, rfl, rfl⟩ := hw
      (repeat (first | refine j0 ?_ | refine q7 rfl ?_ | refine z7 rfl ?_ | refine x6 ?_ | (refine z2 fun K hK => ?_) | (refine x4 (by kernel_rfl) (by kernel_rfl) fun K hK => ?_) | ((first | refine j5 ?_ | refine q6 ?_ | ((first | refine z1 (hK _ ?_) | refine q5 (hK _ _ (j4 (by kernel_rfl)) ?_)); clear hK K)); (first | show AWP _ _ _ _ _ | ((try simp only [q8]); first | show loopQ _ _ _ _ _ _ | show cutQ _ _ _ _ | show AWP _ _ _ _ _))) | ((first | refine x7 [] rfl ?_ | refine j7 [] rfl ?_); simp (maxSteps := 2000000) (disch := omega) only [go_sem, seval, pnP, pnM, pnP1, pnM1]; (repeat (first | refine ⟨by omega, ?_⟩ | refine ⟨True.intro, ?_⟩)))))
      (refine walkS_ex (step_mcallX [(1000, 1000)] rfl rfl rfl rfl rfl rfl (partial_c hc y n gen a1 b1 (by omega) (by omega) hn dy hs.bl) (fun _ => rfl) (j11 (by repeat (first | exact trivial | refine ⟨rfl, ?_⟩)) (by kernel_rfl)) (fun _ => (j11 (by repeat (first | exact trivial | refine ⟨rfl, ?_⟩)) (by kernel_rfl)))) ?_); rintro ⟨⟨r,z⟩,hz,hz2⟩; simp (maxSteps := 2000000) (disch := omega) only [go_sem, seval, pnP, pnM, pnP1, pnM1]
      simp only [] at hz hz2
      cases r
      · (repeat (first | refine j0 ?_ | refine q7 rfl ?_ | refine z7 rfl ?_ | refine x6 ?_ | (refine z2 fun K hK => ?_) | (refine x4 (by kernel_rfl) (by kernel_rfl) fun K hK => ?_) | ((first | refine j5 ?_ | refine q6 ?_ | ((first | refine z1 (hK _ ?_) | refine q5 (hK _ _ (j4 (by kernel_rfl)) ?_)); clear hK K)); (first | show AWP _ _ _ _ _ | ((try simp only [q8]); first | show loopQ _ _ _ _ _ _ | show cutQ _ _ _ _ | show AWP _ _ _ _ _))) | ((first | refine x7 [] rfl ?_ | refine j7 [] rfl ?_); simp (maxSteps := 2000000) (disch := omega) only [go_sem, seval, pnP, pnM, pnP1, pnM1]; (repeat (first | refine ⟨by omega, ?_⟩ | refine ⟨True.intro, ?_⟩)))))
        (show cutQ _ _ .normal _); refine cut_n (⟨z, hs.pe' hz⟩) ?_
        unfold pdT
        refine Weak.list ?_ ?_; (all_goals simp (disch := omega) only [AllF, AllL, x10, j10, z10, exists_eq_left', Option.some.injEq, go_sem, seval, pnP, pnM, pnP1, pnM1]); (all_goals (repeat' (with_reducible apply And.intro))); (all_goals try (first | exact z6 rfl | (refine q11 ?_; omega) | (refine z6 ?_; simp; done)))
      · (repeat (first | refine j0 ?_ | refine q7 rfl ?_ | refine z7 rfl ?_ | refine x6 ?_ | (refine z2 fun K hK => ?_) | (refine x4 (by kernel_rfl) (by kernel_rfl) fun K hK => ?_) | ((first | refine j5 ?_ | refine q6 ?_ | ((first | refine z1 (hK _ ?_) | refine q5 (hK _ _ (j4 (by kernel_rfl)) ?_)); clear hK K)); (first | show AWP _ _ _ _ _ | ((try simp only [q8]); first | show loopQ _ _ _ _ _ _ | show cutQ _ _ _ _ | show AWP _ _ _ _ _))) | ((first | refine x7 [] rfl ?_ | refine j7 [] rfl ?_); simp (maxSteps := 2000000) (disch := omega) only [go_sem, seval, pnP, pnM, pnP1, pnM1]; (repeat (first | refine ⟨by omega, ?_⟩ | refine ⟨True.intro, ?_⟩)))))
        refine x9 (cutQ_ret ?_)
        refine And.right (retM_void (l := 1000) rfl rfl ?_)
        exact ⟨⟨z, hs.pe.trans (hz.widen g1 g2 g3), hs.fin z hz (hz2 rfl)⟩, rfl, rfl⟩
    · have hq : wb = false ∨ (wb = true ∧ wp = false) ∨ (wb = true ∧ wp = true ∧ hint = 0) := by
        cases wb
        · exact .inl rfl
        · cases wp
          · exact .inr (.inl ⟨rfl, rfl⟩)
          · rcases hh with h | h
            · exact .inr (.inr ⟨rfl, rfl, h⟩)
            · exact absurd ⟨rfl, rfl, h⟩ hw
      rcases hq with rfl | ⟨rfl, rfl⟩ | ⟨rfl, rfl, rfl⟩
      all_goals
        (repeat (first | refine j0 ?_ | refine q7 rfl ?_ | refine z7 rfl ?_ | refine x6 ?_ | (refine z2 fun K hK => ?_) | (refine x4 (by kernel_rfl) (by kernel_rfl) fun K hK => ?_) | ((first | refine j5 ?_ | refine q6 ?_ | ((first | refine z1 (hK _ ?_) | refine q5 (hK _ _ (j4 (by kernel_rfl)) ?_)); clear hK K)); (first | show AWP _ _ _ _ _ | ((try simp only [q8]); first | show loopQ _ _ _ _ _ _ | show cutQ _ _ _ _ | show AWP _ _ _ _ _))) | ((first | refine x7 [] rfl ?_ | refine j7 [] rfl ?_); simp (maxSteps := 2000000) (disch := omega) only [go_sem, seval, pnP, pnM, pnP1, pnM1]; (repeat (first | refine ⟨by omega, ?_⟩ | refine ⟨True.intro, ?_⟩)))))
        (show cutQ _ _ .normal _); refine cut_n (⟨y, hs⟩) ?_
        unfold pdT
        refine Weak.list ?_ ?_; (all_goals simp (disch := omega) only [AllF, AllL, x10, j10, z10, exists_eq_left', Option.some.injEq, go_sem, seval, pnP, pnM, pnP1, pnM1]); (all_goals (repeat' (with_reducible apply And.intro))); (all_goals try (first | exact z6 rfl | (refine q11 ?_; omega) | (refine z6 ?_; simp; done)))
  rintro ⟨y, hs⟩
  unfold pdT
  simp only [] at hs ⊢
  have dy := hx.pe hs.pe hab hb
  refine j0 ?_
  refine j0 ?_
  refine awp_mid (fun z : Unit => pdT n gen g o a1 b1 lim wb wp p hint y) ?_ ?_
  · by_cases ha0 : a1 = 0
    · subst ha0
      (repeat (first | refine j0 ?_ | refine q7 rfl ?_ | refine z7 rfl ?_ | refine x6 ?_ | (refine z2 fun K hK => ?_) | (refine x4 (by kernel_rfl) (by kernel_rfl) fun K hK => ?_) | ((first | refine j5 ?_ | refine q6 ?_ | ((first | refine z1 (hK _ ?_) | refine q5 (hK _ _ (j4 (by kernel_rfl)) ?_)); clear hK K)); (first | show AWP _ _ _ _ _ | ((try simp only [q8]); first | show loopQ _ _ _ _ _ _ | show cutQ _ _ _ _ | show AWP _ _ _ _ _))) | ((first | refine x7 [] rfl ?_ | refine j7 [] rfl ?_); simp (maxSteps := 2000000) (disch := omega) only [go_sem, seval, pnP, pnM, pnP1, pnM1]; (repeat (first | refine ⟨by omega, ?_⟩ | refine ⟨True.intro, ?_⟩)))))
      (show cutQ _ _ .normal _); refine cut_n (()) ?_
      unfold pdT
      refine Weak.list ?_ ?_; (all_goals simp (disch := omega) only [AllF, AllL, x10, j10, z10, exists_eq_left', Option.some.injEq, go_sem, seval, pnP, pnM, pnP1, pnM1]); (all_goals (repeat' (with_reducible apply And.intro))); (all_goals try (first | exact z6 rfl | (refine q11 ?_; omega) | (refine z6 ?_; simp; done)))
    · obtain ⟨a2, rfl⟩ : ∃ m, a1 = m + 1 := ⟨a1 - 1, by omega⟩
      have r1 := rowN_at y a2
      have r2 := rowN_at y p
      have cc := hc.call (y a2) (y p) (dy.lt _ (by omega)) (dy.lt _ (by omega))
      have cl := hc.lt (y a2) (y p) (dy.lt _ (by omega)) (dy.lt _ (by omega))
      have ci := hc.inj (y a2) (y p) (dy.lt _ (by omega)) (dy.lt _ (by omega))
      have hle := hs.bl p (by omega) (by omega) (by omega)
      rw [Nat.add_sub_cancel] at hle
      have hne : key (y a2) ≠ key (y p) := fun e => by
        have := dy.inj (by omega) (by omega) (ci e)
        omega
      generalize c (y a2) (y p) = c0 at cc cl
      have hlt : c0 < 0 := cl.2 (by omega)
      (repeat (first | refine j0 ?_ | refine q7 rfl ?_ | refine z7 rfl ?_ | refine x6 ?_ | (refine z2 fun K hK => ?_) | (refine x4 (by kernel_rfl) (by kernel_rfl) fun K hK => ?_) | ((first | refine j5 ?_ | refine q6 ?_ | ((first | refine z1 (hK _ ?_) | refine q5 (hK _ _ (j4 (by kernel_rfl)) ?_)); clear hK K)); (first | show AWP _ _ _ _ _ | ((try simp only [q8]); first | show loopQ _ _ _ _ _ _ | show cutQ _ _ _ _ | show AWP _ _ _ _ _))) | ((first | refine j9 rfl rfl rfl ?_ | refine q10 rfl rfl rfl ?_); simp (maxSteps := 2000000) (disch := omega) only [go_sem, seval, pnP, pnM, pnP1, pnM1, r1, r2]; (first | refine ⟨_, cc, ?_⟩)) | ((first | refine x7 [] rfl ?_ | refine j7 [] rfl ?_); simp (maxSteps := 2000000) (disch := omega) only [go_sem, seval, pnP, pnM, pnP1, pnM1, r1, r2]; (repeat (first | refine ⟨by omega, ?_⟩ | refine ⟨True.intro, ?_⟩)))))
      (show cutQ _ _ .normal _); refine cut_n (()) ?_
      unfold pdT
      refine Weak.list ?_ ?_; (all_goals simp (disch := omega) only [AllF, AllL, x10, j10, z10, exists_eq_left', Option.some.injEq, go_sem, seval, pnP, pnM, pnP1, pnM1, r1, r2]); (all_goals (repeat' (with_reducible apply And.intro))); (all_goals try (first | exact z6 rfl | (refine q11 ?_; omega) | (refine z6 ?_; simp; done)))
  rintro ⟨⟩
  unfold pdT
  generalize he8 : ((b1 : Int) - (a1 : Int)).tdiv 8 = t8
  (repeat (first | refine j0 ?_ | refine q7 rfl ?_ | refine z7 rfl ?_ | refine x6 ?_ | (refine z2 fun K hK => ?_) | (refine x4 (by kernel_rfl) (by kernel_rfl) fun K hK => ?_) | ((first | refine j5 ?_ | refine q6 ?_ | ((first | refine z1 (hK _ ?_) | refine q5 (hK _ _ (j4 (by kernel_rfl)) ?_)); clear hK K)); (first | show AWP _ _ _ _ _ | ((try simp only [q8]); first | show loopQ _ _ _ _ _ _ | show cutQ _ _ _ _ | show AWP _ _ _ _ _))) | ((first | refine x7 [] rfl ?_ | refine j7 [] rfl ?_); simp (maxSteps := 2000000) (disch := omega) only [go_sem, seval, pnP, pnM, pnP1, pnM1, he8]; (repeat (first | refine ⟨by omega, ?_⟩ | refine ⟨True.intro, ?_⟩)))))
  (refine walkS_ex (step_mcallX [(1000, 1000)] rfl rfl rfl rfl rfl rfl (partition_c hc y n gen a1 b1 p (by omega) hp1 hp2 (by omega) hn dy) (fun _ => rfl) (j11 (by repeat (first | exact trivial | refine ⟨rfl, ?_⟩)) (by kernel_rfl)) (fun _ => (j11 (by repeat (first | exact trivial | refine ⟨rfl, ?_⟩)) (by kernel_rfl)))) ?_); rintro ⟨⟨m,wp2,z⟩,hm1,hm2,hm3,hm4⟩; simp (maxSteps := 2000000) (disch := omega) only [go_sem, seval, pnP, pnM, pnP1, pnM1, he8]
  simp only [] at hm1 hm2 hm3 hm4
  have hs' := hs.pe' hm3
  have dz := hx.pe hs'.pe hab hb
  by_cases hside : m - a1 < b1 - m
  · (repeat (first | refine j0 ?_ | refine q7 rfl ?_ | refine z7 rfl ?_ | refine x6 ?_ | (refine z2 fun K hK => ?_) | (refine x4 (by kernel_rfl) (by kernel_rfl) fun K hK => ?_) | ((first | refine j5 ?_ | refine q6 ?_ | ((first | refine z1 (hK _ ?_) | refine q5 (hK _ _ (j4 (by kernel_rfl)) ?_)); clear hK K)); (first | show AWP _ _ _ _ _ | ((try simp only [q8]); first | show loopQ _ _ _ _ _ _ | show cutQ _ _ _ _ | show AWP _ _ _ _ _))) | ((first | refine x7 [] rfl ?_ | refine j7 [] rfl ?_); simp (maxSteps := 2000000) (disch := omega) only [go_sem, seval, pnP, pnM, pnP1, pnM1, he8]; (repeat (first | refine ⟨by omega, ?_⟩ | refine ⟨True.intro, ?_⟩)))))
    (refine walkS_ex (step_mcallX [(1000, 1000)] rfl rfl rfl rfl rfl rfl (ih (m - a1) (by omega) z a1 m a1 m lim (Nat.le_refl _) rfl rfl hm1 (by omega) dz (fun k k0 k1 k2 => hs'.bl k k0 k1 (by omega)) l0 l1) (fun _ => rfl) (j11 (by repeat (first | exact trivial | refine ⟨rfl, ?_⟩)) (by kernel_rfl)) (fun _ => (j11 (by repeat (first | exact trivial | refine ⟨rfl, ?_⟩)) (by kernel_rfl)))) ?_); rintro ⟨u,hu,hu2⟩; simp (maxSteps := 2000000) (disch := omega) only [go_sem, seval, pnP, pnM, pnP1, pnM1, he8]
    (repeat (first | refine j0 ?_ | refine q7 rfl ?_ | refine z7 rfl ?_ | refine x6 ?_ | (refine z2 fun K hK => ?_) | (refine x4 (by kernel_rfl) (by kernel_rfl) fun K hK => ?_) | ((first | refine j5 ?_ | refine q6 ?_ | ((first | refine z1 (hK _ ?_) | refine q5 (hK _ _ (j4 (by kernel_rfl)) ?_)); clear hK K)); (first | show AWP _ _ _ _ _ | ((try simp only [q8]); first | show loopQ _ _ _ _ _ _ | show cutQ _ _ _ _ | show AWP _ _ _ _ _))) | ((first | refine x7 [] rfl ?_ | refine j7 [] rfl ?_); simp (maxSteps := 2000000) (disch := omega) only [go_sem, seval, pnP, pnM, pnP1, pnM1, he8]; (repeat (first | refine ⟨by omega, ?_⟩ | refine ⟨True.intro, ?_⟩)))))
    refine ⟨⟨(m + 1, b1, lim, decide ((m : Int) - a1 ≥ IntKind.i64.wrap t8), wp2, u), l0, l1, hs'.left hm1 hm2 hm4 hu hu2⟩, by simp only []; omega, ?_⟩
    refine Weak.list ?_ ?_; (all_goals simp (disch := omega) only [AllF, AllL, x10, j10, z10, exists_eq_left', Option.some.injEq, go_sem, seval, pnP, pnM, pnP1, pnM1, he8]); (all_goals (repeat' (with_reducible apply And.intro))); (all_goals try (first | exact z6 rfl | (refine q11 ?_; omega) | (refine z6 ?_; simp; done)))
  · (repeat (first | refine j0 ?_ | refine q7 rfl ?_ | refine z7 rfl ?_ | refine x6 ?_ | (refine z2 fun K hK => ?_) | (refine x4 (by kernel_rfl) (by kernel_rfl) fun K hK => ?_) | ((first | refine j5 ?_ | refine q6 ?_ | ((first | refine z1 (hK _ ?_) | refine q5 (hK _ _ (j4 (by kernel_rfl)) ?_)); clear hK K)); (first | show AWP _ _ _ _ _ | ((try simp only [q8]); first | show loopQ _ _ _ _ _ _ | show cutQ _ _ _ _ | show AWP _ _ _ _ _))) | ((first | refine x7 [] rfl ?_ | refine j7 [] rfl ?_); simp (maxSteps := 2000000) (disch := omega) only [go_sem, seval, pnP, pnM, pnP1, pnM1, he8]; (repeat (first | refine ⟨by omega, ?_⟩ | refine ⟨True.intro, ?_⟩)))))
    (refine walkS_ex (step_mcallX [(1000, 1000)] rfl rfl rfl rfl rfl rfl (ih (b1 - (m + 1)) (by omega) z (m + 1) b1 ((m : Int) + 1) b1 lim (Nat.le_refl _) (by omega) rfl (by omega) (by omega) dz (fun k k0 k1 k2 => by rw [Nat.add_sub_cancel]; exact hm4.hi k (by omega) k2) l0 l1) (fun _ => rfl) (j11 (by repeat (first | exact trivial | refine ⟨rfl, ?_⟩)) (by kernel_rfl)) (fun _ => (j11 (by repeat (first | exact trivial | refine ⟨rfl, ?_⟩)) (by kernel_rfl)))) ?_); rintro ⟨u,hu,hu2⟩; simp (maxSteps := 2000000) (disch := omega) only [go_sem, seval, pnP, pnM, pnP1, pnM1, he8]
    (repeat (first | refine j0 ?_ | refine q7 rfl ?_ | refine z7 rfl ?_ | refine x6 ?_ | (refine z2 fun K hK => ?_) | (refine x4 (by kernel_rfl) (by kernel_rfl) fun K hK => ?_) | ((first | refine j5 ?_ | refine q6 ?_ | ((first | refine z1 (hK _ ?_) | refine q5 (hK _ _ (j4 (by kernel_rfl)) ?_)); clear hK K)); (first | show AWP _ _ _ _ _ | ((try simp only [q8]); first | show loopQ _ _ _ _ _ _ | show cutQ _ _ _ _ | show AWP _ _ _ _ _))) | ((first | refine x7 [] rfl ?_ | refine j7 [] rfl ?_); simp (maxSteps := 2000000) (disch := omega) only [go_sem, seval, pnP, pnM, pnP1, pnM1, he8]; (repeat (first | refine ⟨by omega, ?_⟩ | refine ⟨True.intro, ?_⟩)))))
    refine ⟨⟨(a1, m, lim, decide ((b1 : Int) - m ≥ IntKind.i64.wrap t8), wp2, u), l0, l1, hs'.right hm1 hm2 hm4 hu hu2⟩, by simp only []; omega, ?_⟩
    refine Weak.list ?_ ?_; (all_goals simp (disch := omega) only [AllF, AllL, x10, j10, z10, exists_eq_left', Option.some.injEq, go_sem, seval, pnP, pnM, pnP1, pnM1, he8]); (all_goals (repeat' (with_reducible apply And.intro))); (all_goals try (first | exact z6 rfl | (refine q11 ?_; omega) | (refine z6 ?_; simp; done)))
set_option maxRecDepth 100000 in
set_option maxHeartbeats 2000000 in
theorem SortN_c {key : Nat → Int} {c : Nat → Nat → Int} {g : FuncId} {o : PV} {N : Nat} (hc : CmpN Try.prog g o N key c) (x : Nat → Nat) (n gen : Nat) (hn : n ≤ 1099511627776) (hx : Dom n N x) :
    MCalls Try.prog 62 [.ow 1000 gen 1 n, .p (.fn (.func g) [o] [])] [(1000, .own 3 1 n gen (rowN x))]
      (fun rs M => ∃ y : {y : Nat → Nat // PE 0 n x y ∧ Srt key 0 n y}, rs = [] ∧ M = [(1000, .own 3 1 n gen (rowN y.val))]) := by
  have bl := bitsLen_c n hn
  have hL : Go.Lib.bitLen n ≤ 41 := by
    by_cases h0 : n = 0
    · subst h0; decide
    · have h := bitLen_pow h0 (show n < 2 ^ 64 by omega)
      have h2 : 2 ^ Go.Lib.bitLen n ≤ 2 ^ 41 := by omega
      exact (Nat.pow_le_pow_iff_right (by omega)).1 h2
  generalize Go.Lib.bitLen n = L at bl hL
  have e1 : IntKind.u64.wrap (n : Int) = (n : Int) := wu (by omega)
  refine mcalls_of_awp Try.func62 rfl (by decide +kernel) (by rw [Try.ntmps62]; simp) (fun l X h => by simp only [AL.look] at h; (repeat' split at h); all_goals first | omega | cases h) ?_; rw [Try.ntmps62]; simp only [frA]
  (repeat (first | refine j0 ?_ | refine q7 rfl ?_ | refine z7 rfl ?_ | refine x6 ?_ | (refine z2 fun K hK => ?_) | (refine x4 (by kernel_rfl) (by kernel_rfl) fun K hK => ?_) | ((first | refine j5 ?_ | refine q6 ?_ | ((first | refine z1 (hK _ ?_) | refine q5 (hK _ _ (j4 (by kernel_rfl)) ?_)); clear hK K)); (first | show AWP _ _ _ _ _ | ((try simp only [q8]); first | show loopQ _ _ _ _ _ _ | show cutQ _ _ _ _ | show AWP _ _ _ _ _))) | ((first | refine j9 rfl rfl rfl ?_ | refine q10 rfl rfl rfl ?_); simp (maxSteps := 2000000) (disch := omega) only [go_sem, seval, pnP, pnM, pnP1, pnM1, e1]; (first | refine ⟨_, bl, ?_⟩)) | ((first | refine x7 [] rfl ?_ | refine j7 [] rfl ?_); simp (maxSteps := 2000000) (disch := omega) only [go_sem, seval, pnP, pnM, pnP1, pnM1, e1]; (repeat (first | refine ⟨by omega, ?_⟩ | refine ⟨True.intro, ?_⟩)))))
  (refine walkS_ex (step_mcallX [(1000, 1000)] rfl rfl rfl rfl rfl rfl (pdq_c hc n gen hn n x 0 n 0 n L (by omega) rfl rfl (by omega) (by omega) hx (fun k h0 h1 h2 => by omega) (by omega) (by omega)) (fun _ => rfl) (j11 (by repeat (first | exact trivial | refine ⟨rfl, ?_⟩)) (by kernel_rfl)) (fun _ => (j11 (by repeat (first | exact trivial | refine ⟨rfl, ?_⟩)) (by kernel_rfl)))) ?_); rintro ⟨y,hy,hy2⟩; simp (maxSteps := 2000000) (disch := omega) only [go_sem, seval, pnP, pnM, pnP1, pnM1, e1]
  (repeat (first | refine j0 ?_ | refine q7 rfl ?_ | refine z7 rfl ?_ | refine x6 ?_ | (refine z2 fun K hK => ?_) | (refine x4 (by kernel_rfl) (by kernel_rfl) fun K hK => ?_) | ((first | refine j5 ?_ | refine q6 ?_ | ((first | refine z1 (hK _ ?_) | refine q5 (hK _ _ (j4 (by kernel_rfl)) ?_)); clear hK K)); (first | show AWP _ _ _ _ _ | ((try simp only [q8]); first | show loopQ _ _ _ _ _ _ | show cutQ _ _ _ _ | show AWP _ _ _ _ _))) | ((first | refine x7 [] rfl ?_ | refine j7 [] rfl ?_); simp (maxSteps := 2000000) (disch := omega) only [go_sem, seval, pnP, pnM, pnP1, pnM1, e1]; (repeat (first | refine ⟨by omega, ?_⟩ | refine ⟨True.intro, ?_⟩)))))
  (first | (refine z1 (hK _ ?_); refine And.left (retM_void (l := 1000) rfl rfl ?_)) | (refine q6 ?_; refine And.left (retM_void (l := 1000) rfl rfl ?_)) | (refine j5 ?_; refine And.left (retM_void (l := 1000) rfl rfl ?_)) | (refine x9 ?_; refine And.right (retM_void (l := 1000) rfl rfl ?_)) | refine And.left (retM_void (l := 1000) rfl rfl ?_))
  exact ⟨⟨y, hy, hy2⟩, rfl, rfl⟩
end Go.Proofs.Ytbiildleaelodaa
set_option linter.unusedSimpArgs false
set_option linter.unusedVariables false
namespace Go.Proofs.Ytbiildleaelodaa.AL
open Go
theorem Weak.ownCell (A : ASt) (l0 l j sz : Nat) (e e' : TypeId) (cs : List AV) (f : Nat → List Dat) (hl0 : look A.locs l0 = some (.cells e cs)) (hj : cs[j]? = some (.p (.d (.v (.slice none 0 0))))) (hne : l0 ≠ l)
    (hu : unusedB A l = true) (hn : look A.locs l = none) : Weak A ⟨A.fr, (l, .own e' sz 0 0 f) :: (l0, .cells e (cs.set j (.ow l 0 sz 0))) :: A.locs⟩ := by
  intro w0 g0 nt h a w r
  let h' : Gh := { h with κ := fun k => if k = l then .slice none 0 0 else h.κ k, μ := fun k => if k = l then 0 else h.μ k }
  have un := unusedB_spec hu
  have tr : Trans w0.O w h w h' (fun _ => False) (some l) true := by
    refine ⟨BelowS.refl _ _, fun b _ _ => ⟨rfl, rfl⟩, ⟨fun b => Nat.le_refl _, fun b o _ => rfl⟩, r.gz, fun b _ => rfl, fun _ _ => rfl, fun k hk => ?_, fun k _ hf => by cases hf⟩
    have : k ≠ l := fun e => hk (by rw [e])
    simp [h', this]
  have nl : h'.κ l = .slice none 0 0 := by simp [h']
  have nm : h'.μ l = 0 := by simp [h']
  have old : ∀ k L, k ≠ l → look A.locs k = some L → LocOK w0.O w h' k L ∧ inB h' k L = inB h k L := fun k L hk hL =>
    LocOK.trans tr (fun e => hk (by cases e; rfl)) (fun _ l' hl' hm => by cases hl'; exact un.2.1 k L hL hm) (fun b _ => by simp) (r.locs k L hL)
  have cell0 : LocOK w0.O w h' l0 (.cells e (cs.set j (.ow l 0 sz 0))) := by
    obtain ⟨arr, c1, c2, c3, c4, c5⟩ := (old l0 _ hne hl0).1
    refine ⟨arr, c1, c2, by simpa using c3, c4, fun i v x hv hx => ?_⟩
    by_cases hi : i = j
    · subst hi
      have hlt := (List.getElem?_eq_some_iff.1 hj).1
      rw [List.getElem?_set_self hlt] at hx
      cases hx
      obtain ⟨k1, k2⟩ := c5 i v _ hv hj
      have hv0 := relA_nil k1
      refine ⟨?_, k2⟩
      rw [hv0]
      exact ⟨by omega, ⟨_, _, rfl, fun hh => by omega⟩, fun _ => nl.symm⟩
    · rw [List.getElem?_set_ne (fun e => hi e.symm)] at hx
      exact c5 i v x hv hx
  refine ⟨h', r.size, r.defers, fun u y hy => ?_, fun k L hL => ?_, fun k k' L L' b hne2 hL hL' hbk => ?_, r.ext, fun k hk => ?_⟩
  · exact RelA.trans tr (fun _ l' hl' hm => by cases hl'; exact un.1 u y hy hm) (r.fr u y hy)
  · simp only [look] at hL
    split at hL
    · rename_i e2; subst e2; cases hL
      exact ⟨nm, ⟨[], by rw [nl]; exact World.ownsRow_nil _ _ _ _, fun i hi => by omega, fun i j d hi => by omega⟩, fun b hb => by rw [nl] at hb; simp [Value.ownBlock] at hb⟩
    · rename_i hk
      split at hL
      · rename_i e2; subst e2; cases hL; exact cell0
      · exact (old k L (fun e => hk e.symm) hL).1
  · have two : ∀ {k : Nat} {L : LV}, look ((l, LV.own e' sz 0 0 f) :: (l0, .cells e (cs.set j (.ow l 0 sz 0))) :: A.locs) k = some L → inB h' k L b → k ≠ l ∧ ∃ L0, look A.locs k = some L0 ∧ inB h k L0 b := by
      intro k L hL hb
      simp only [look] at hL
      split at hL
      · rename_i e2; subst e2; cases hL
        simp [inB, nl, Value.ownBlock] at hb
      · rename_i hk
        refine ⟨fun e => hk e.symm, ?_⟩
        split at hL
        · rename_i e2; subst e2; cases hL
          exact ⟨_, hl0, hb⟩
        · exact ⟨L, hL, by rw [← (old k L (fun e => hk e.symm) hL).2]; exact hb⟩
    intro hin
    obtain ⟨a1, L1, a2, a3⟩ := two hL hbk
    obtain ⟨b1, L2, b2, b3⟩ := two hL' hin
    exact r.sep k k' L1 L2 b hne2 a2 b2 a3 b3
  · have : k ≠ l := by have := un.2.2; omega
    simp only [h', if_neg this]
    exact r.pin k hk
theorem awp_ownCell {P : Program} {nt : Nat} {c : Code} {Q : Exit → ASt → Prop} {A : ASt} (l0 l j sz : Nat) (e' : TypeId) (f : Nat → List Dat) {e : TypeId} {cs : List AV} (hl0 : look A.locs l0 = some (.cells e cs)) (hj : cs[j]? = some (.p (.d (.v (.slice none 0 0))))) (hne : l0 ≠ l)
    (hu : unusedB A l = true) (hn : look A.locs l = none) (h : AWP P nt c Q ⟨A.fr, (l, .own e' sz 0 0 f) :: (l0, .cells e (cs.set j (.ow l 0 sz 0))) :: A.locs⟩) : AWP P nt c Q A := awp_weak (Weak.ownCell A l0 l j sz e e' cs f hl0 hj hne hu hn) h
end Go.Proofs.Ytbiildleaelodaa.AL
set_option linter.unusedSimpArgs false
set_option linter.unusedVariables false
namespace Go.Proofs.Ytbiildleaelodaa.AL
open Go
theorem Weak.frz (A : ASt) (u l : Nat) (f : Fn) (e : TypeId) (cs : List AV) (ds : List Dat) (hu : look A.fr u = some (.cl f [.loc l 0] [])) (hl : look A.locs l = some (.cells e cs))
    (hd : ∀ (j : Nat) (d : Dat), ds[j]? = some d → cs[j]? = some (AV.p (PV.d d))) :
    Weak A ⟨(u, .p (.fn f [.d (.bx ds)] [])) :: A.fr, (l, .fz e cs) :: A.locs⟩ := by
  intro w0 g0 nt h a w r
  obtain ⟨arr, c7, c2, c5, c6, c8⟩ := r.locs l _ hl
  have hv : RelA w h (a.tmps.getD u _root_.Go.undef) (.cl f [.loc l 0] []) := r.fr u _ hu
  have hbl : h.ρ l < w.heap.size := (Array.getElem?_eq_some_iff.1 c2).1
  have hlen : ds.length ≤ arr.size := by
    rw [c5]
    by_cases h0 : ds.length = 0
    · omega
    · have := (List.getElem?_eq_some_iff.1 (hd (ds.length - 1) (ds[ds.length - 1]'(by omega)) (List.getElem?_eq_getElem _))).1
      omega
  generalize hb : h.ρ l = b at *
  let h' : Gh := { h with g := setG h.g b arr.size }
  have hkeep : Keep w h.g w h'.g := by
    refine ⟨fun k => ?_, fun k q hq => rfl⟩
    simp only [h', setG]; split
    · rename_i e; rw [e, c6]; exact Nat.zero_le _
    · exact Nat.le_refl _
  have gz' : GZ w h'.g := fun k hk => by
    have : k ≠ b := by omega
    simp only [h', setG, if_neg this]; exact r.gz k hk
  have tr : Trans w0.O w h w h' (fun k => b = k) none false := by
    refine ⟨BelowS.refl _ _, fun k _ hk => ⟨rfl, ?_⟩, hkeep, gz', fun k hk => ?_, fun _ _ => rfl, fun k _ => ⟨rfl, rfl⟩, fun k hk => by cases hk⟩
    · have : k ≠ b := fun e => hk e.symm
      simp [h', setG, this]
    · have : k ≠ b := fun e => hk (e ▸ c7)
      simp [h', setG, this]
  have ho : ∀ k L, k ≠ l → look A.locs k = some L → LocOK w0.O w h' k L ∧ inB h' k L = inB h k L := by
    intro k L k1 k2
    refine LocOK.trans tr (by simp) (fun hf => by cases hf) (fun b' hb' e => ?_) (r.locs k L k2)
    cases e
    exact r.sep k l L _ b k1 k2 hl hb' (by simp [inB, hb])
  have hself : LocOK w0.O w h' l (.fz e cs) := by
    refine ⟨arr, by rw [show h'.ρ l = b from hb]; exact c7, by rw [show h'.ρ l = b from hb]; exact c2, c5, by rw [show h'.ρ l = b from hb]; simp [h', setG], fun i v x hvi hx => ?_⟩
    exact ⟨RelA.trans tr (fun hf => by cases hf) (c8 i v x hvi hx).1, (c8 i v x hvi hx).2⟩
  refine ⟨h', r.size, r.defers, fun t y hy => ?_, fun k L hk => ?_, fun k k' L L' b' h1 h2 h3 h4 => ?_, ⟨r.ext.below, fun k hk => (tr.gB k hk).trans (r.ext.gam k hk), gz', r.ext.keep.trans hkeep⟩, r.pin⟩
  · simp only [look] at hy
    split at hy
    · rename_i e'; subst e'; cases hy
      obtain ⟨vs, us, ev, ⟨l1, k1⟩, ⟨l2, k2⟩⟩ := hv
      rw [ev]
      refine .fn f vs us _ _ (by simpa using l1) (by simpa using l2) (fun j v x hvj hx => ?_) (fun j v x _ hx => by simp at hx)
      match j, hx with
      | 0, hx =>
        cases hx
        have e2 : v = .pointer (some ⟨h.ρ l, 0, none⟩) := k1 0 v (.loc l 0) hvj rfl
        rw [e2, hb]
        refine .d _ _ (.bx b 0 ds (fun j => (arr[j]?).getD _root_.Go.undef) (fun j hj => ?_) (by simp [h', setG]; exact hlen) (fun j x hx => ?_))
        · rw [Nat.zero_add, heap_cell c2]
          simp [show j < arr.size by omega]
        · have hj := (List.getElem?_eq_some_iff.1 hx).1
          have hja : arr[j]? = some arr[j] := by simp [show j < arr.size by omega]
          have h3 := (c8 j _ _ hja (hd j x hx)).1
          rw [hja]
          show RelD w h'.g arr[j] x
          revert h3
          generalize arr[j] = v
          intro h3
          cases h3 with
          | d _ _ h3 => exact h3.keep hkeep
      | j + 1, hx => simp at hx
    · exact RelA.trans tr (fun hf => by cases hf) (r.fr t y hy)
  · simp only [look] at hk
    split at hk
    · rename_i e'; subst e'; cases hk; exact hself
    · rename_i e'
      exact (ho k L (fun x => e' x.symm) hk).1
  · have two : ∀ {k : Nat} {L : LV}, look ((l, LV.fz e cs) :: A.locs) k = some L → inB h' k L b' → ∃ L0, look A.locs k = some L0 ∧ inB h k L0 b' := by
      intro k L hk hi
      simp only [look] at hk
      split at hk
      · rename_i e'; subst e'; cases hk
        exact ⟨_, hl, hi⟩
      · rename_i e'
        exact ⟨L, hk, by rw [← (ho k L (fun x => e' x.symm) hk).2]; exact hi⟩
    intro hin
    obtain ⟨L0, g1, g2⟩ := two h2 h4
    obtain ⟨L1, g3, g4⟩ := two h3 hin
    exact r.sep k k' L0 L1 b' h1 g1 g3 g2 g4
end Go.Proofs.Ytbiildleaelodaa.AL
set_option linter.unusedSimpArgs false
set_option linter.unusedVariables false
namespace Go.Proofs.Ytbiildleaelodaa
open Go.Proofs.Ytbiildleaelodaa.AL
def orI (p q : Int) : Int := if p = 0 then q else p
set_option maxHeartbeats 2000000 in
theorem OrI_c (p q : Int) : ACalls Try.prog 86 [.d (.sl 1 2 fun i => [[Dat.v (.int .i64 p)], [Dat.v (.int .i64 q)]].getD i [])] (· = [.d (.v (.int .i64 (orI p q)))]) := by
  unfold orI
  refine z11 Try.func86 rfl (by decide +kernel) (by rw [Try.ntmps86]; simp) ?_; rw [Try.ntmps86]; simp only [frOf]
  (repeat (first | refine j0 ?_ | refine q7 rfl ?_ | refine z7 rfl ?_ | refine x6 ?_ | (refine z2 fun K hK => ?_) | (refine x4 (by kernel_rfl) (by kernel_rfl) fun K hK => ?_) | ((first | refine j5 ?_ | refine q6 ?_ | ((first | refine z1 (hK _ ?_) | refine q5 (hK _ _ (j4 (by kernel_rfl)) ?_)); clear hK K)); (first | show AWP _ _ _ _ _ | ((try simp only [q8]); first | show loopQ _ _ _ _ _ _ | show cutQ _ _ _ _ | show AWP _ _ _ _ _))) | ((first | refine x7 [] rfl ?_ | refine j7 [] rfl ?_); simp (maxSteps := 2000000) (disch := omega) only [go_sem, seval, hd, cb, ruleD]; (repeat (first | refine ⟨by omega, ?_⟩ | refine ⟨True.intro, ?_⟩)))))
  refine awp_loop (fun i : {i : Nat // i ≤ 2 ∧ (0 < i → p = 0) ∧ (1 < i → q = 0)} => ⟨[(8, .p (.d (.v (.int .i64 (i.val : Int))))), (7, .p (.d (.v (.int .i64 2)))), (6, .p (.d (.sl 1 2 fun i => [[Dat.v (.int .i64 p)], [Dat.v (.int .i64 q)]].getD i []))), (3, .p (.d (.v (.int .i64 0))))], []⟩) (fun s => 2 - s.val) ⟨0, by omega, fun h => by omega, fun h => by omega⟩ ?_ (fun s => ?_)
  · refine Weak.list ?_ ?_; (all_goals simp (disch := omega) only [AllF, AllL, x10, j10, z10, exists_eq_left', Option.some.injEq, go_sem, seval, hd, cb, ruleD]); (all_goals (repeat' (with_reducible apply And.intro))); (all_goals try (first | exact z6 rfl | (refine q11 ?_; omega) | (refine z6 ?_; simp; done)))
  obtain ⟨i, h1, h2, h3⟩ := s
  simp only []
  rcases (by omega : i = 0 ∨ i = 1 ∨ i = 2) with rfl | rfl | rfl
  · by_cases hp : p = 0
    · have q1 : (p != 0) = false := ine_ff hp
      (repeat (first | refine j0 ?_ | refine q7 rfl ?_ | refine z7 rfl ?_ | refine x6 ?_ | (refine z2 fun K hK => ?_) | (refine x4 (by kernel_rfl) (by kernel_rfl) fun K hK => ?_) | ((first | refine j5 ?_ | refine q6 ?_ | ((first | refine z1 (hK _ ?_) | refine q5 (hK _ _ (j4 (by kernel_rfl)) ?_)); clear hK K)); (first | show AWP _ _ _ _ _ | ((try simp only [q8]); first | show loopQ _ _ _ _ _ _ | show cutQ _ _ _ _ | show AWP _ _ _ _ _))) | ((first | refine x7 [] rfl ?_ | refine j7 [] rfl ?_); simp (maxSteps := 2000000) (disch := omega) only [go_sem, seval, hd, cb, ruleD, q1]; (repeat (first | refine ⟨by omega, ?_⟩ | refine ⟨True.intro, ?_⟩)))))
      refine ⟨⟨1, by omega, fun _ => hp, fun h => by omega⟩, by simp only []; omega, ?_⟩
      refine Weak.list ?_ ?_; (all_goals simp (disch := omega) only [AllF, AllL, x10, j10, z10, exists_eq_left', Option.some.injEq, go_sem, seval, hd, cb, ruleD, q1]); (all_goals (repeat' (with_reducible apply And.intro))); (all_goals try (first | exact z6 rfl | (refine q11 ?_; omega) | (refine z6 ?_; simp; done)))
    · have q1 : (p != 0) = true := ine_tt hp
      rw [if_neg hp]
      (repeat (first | refine j0 ?_ | refine q7 rfl ?_ | refine z7 rfl ?_ | refine x6 ?_ | (refine z2 fun K hK => ?_) | (refine x4 (by kernel_rfl) (by kernel_rfl) fun K hK => ?_) | ((first | refine j5 ?_ | refine q6 ?_ | ((first | refine z1 (hK _ ?_) | refine q5 (hK _ _ (j4 (by kernel_rfl)) ?_)); clear hK K)); (first | show AWP _ _ _ _ _ | ((try simp only [q8]); first | show loopQ _ _ _ _ _ _ | show cutQ _ _ _ _ | show AWP _ _ _ _ _))) | ((first | refine x7 [] rfl ?_ | refine j7 [] rfl ?_); simp (maxSteps := 2000000) (disch := omega) only [go_sem, seval, hd, cb, ruleD, q1]; (repeat (first | refine ⟨by omega, ?_⟩ | refine ⟨True.intro, ?_⟩)))))
      refine x9 ⟨_, ?_, rfl⟩; rw [Try.results86]; simp (disch := omega) only [ResVars, ResVar, ptrLoc, go_sem, seval, hd, cb, ruleD, q1]
  · rw [if_pos (h2 (by omega))]
    by_cases hp : q = 0
    · have q1 : (q != 0) = false := ine_ff hp
      (repeat (first | refine j0 ?_ | refine q7 rfl ?_ | refine z7 rfl ?_ | refine x6 ?_ | (refine z2 fun K hK => ?_) | (refine x4 (by kernel_rfl) (by kernel_rfl) fun K hK => ?_) | ((first | refine j5 ?_ | refine q6 ?_ | ((first | refine z1 (hK _ ?_) | refine q5 (hK _ _ (j4 (by kernel_rfl)) ?_)); clear hK K)); (first | show AWP _ _ _ _ _ | ((try simp only [q8]); first | show loopQ _ _ _ _ _ _ | show cutQ _ _ _ _ | show AWP _ _ _ _ _))) | ((first | refine x7 [] rfl ?_ | refine j7 [] rfl ?_); simp (maxSteps := 2000000) (disch := omega) only [go_sem, seval, hd, cb, ruleD, q1]; (repeat (first | refine ⟨by omega, ?_⟩ | refine ⟨True.intro, ?_⟩)))))
      refine ⟨⟨2, by omega, fun _ => h2 (by omega), fun h => hp⟩, by simp only []; omega, ?_⟩
      refine Weak.list ?_ ?_; (all_goals simp (disch := omega) only [AllF, AllL, x10, j10, z10, exists_eq_left', Option.some.injEq, go_sem, seval, hd, cb, ruleD, q1]); (all_goals (repeat' (with_reducible apply And.intro))); (all_goals try (first | exact z6 rfl | (refine q11 ?_; omega) | (refine z6 ?_; simp; done)))
    · have q1 : (q != 0) = true := ine_tt hp
      (repeat (first | refine j0 ?_ | refine q7 rfl ?_ | refine z7 rfl ?_ | refine x6 ?_ | (refine z2 fun K hK => ?_) | (refine x4 (by kernel_rfl) (by kernel_rfl) fun K hK => ?_) | ((first | refine j5 ?_ | refine q6 ?_ | ((first | refine z1 (hK _ ?_) | refine q5 (hK _ _ (j4 (by kernel_rfl)) ?_)); clear hK K)); (first | show AWP _ _ _ _ _ | ((try simp only [q8]); first | show loopQ _ _ _ _ _ _ | show cutQ _ _ _ _ | show AWP _ _ _ _ _))) | ((first | refine x7 [] rfl ?_ | refine j7 [] rfl ?_); simp (maxSteps := 2000000) (disch := omega) only [go_sem, seval, hd, cb, ruleD, q1]; (repeat (first | refine ⟨by omega, ?_⟩ | refine ⟨True.intro, ?_⟩)))))
      refine x9 ⟨_, ?_, rfl⟩; rw [Try.results86]; simp (disch := omega) only [ResVars, ResVar, ptrLoc, go_sem, seval, hd, cb, ruleD, q1]
  · rw [if_pos (h2 (by omega))]
    have hq := h3 (by omega)
    subst hq
    (repeat (first | refine j0 ?_ | refine q7 rfl ?_ | refine z7 rfl ?_ | refine x6 ?_ | (refine z2 fun K hK => ?_) | (refine x4 (by kernel_rfl) (by kernel_rfl) fun K hK => ?_) | ((first | refine j5 ?_ | refine q6 ?_ | ((first | refine z1 (hK _ ?_) | refine q5 (hK _ _ (j4 (by kernel_rfl)) ?_)); clear hK K)); (first | show AWP _ _ _ _ _ | ((try simp only [q8]); first | show loopQ _ _ _ _ _ _ | show cutQ _ _ _ _ | show AWP _ _ _ _ _))) | ((first | refine x7 [] rfl ?_ | refine j7 [] rfl ?_); simp (maxSteps := 2000000) (disch := omega) only [go_sem, seval, hd, cb, ruleD]; (repeat (first | refine ⟨by omega, ?_⟩ | refine ⟨True.intro, ?_⟩)))))
    refine x9 ⟨_, ?_, rfl⟩; rw [Try.results86]; simp (disch := omega) only [ResVars, ResVar, ptrLoc, go_sem, seval, hd, cb, ruleD]
def cmpO (l : List Rule) (a b : Nat) : Int := orI (cmpI (l.getD b r0).pr (l.getD a r0).pr) (cmpI (a : Int) (b : Int))
def ordO (l : List Rule) : PV := .d (.bx [.sl 12 l.length (rowR l)])
set_option maxHeartbeats 2000000 in
theorem compareO_c (l : List Rule) (a b : Nat) (ha : a < l.length) (hb : b < l.length) (hl : l.length ≤ 1099511627776) : ACalls Try.prog 63 [ordO l, .d (.v (.int .i64 (a : Int))), .d (.v (.int .i64 (b : Int)))] (· = [.d (.v (.int .i64 (cmpO l a b)))]) := by
  have r1 := rowR_at l a
  have r2 := rowR_at l b
  unfold cmpO ordO
  generalize l.getD a r0 = x at r1
  generalize l.getD b r0 = y at r2
  have k1 := Compare_c y.pr x.pr
  have k2 := Compare_c (a : Int) (b : Int)
  generalize cmpI y.pr x.pr = c1 at k1
  generalize cmpI (a : Int) (b : Int) = c2 at k2
  have k3 := OrI_c c1 c2
  refine z11 Try.func63 rfl (by decide +kernel) (by rw [Try.ntmps63]; simp) ?_; rw [Try.ntmps63]; simp only [frOf]
  (repeat (first | refine j0 ?_ | refine q7 rfl ?_ | refine z7 rfl ?_ | refine x6 ?_ | (refine z2 fun K hK => ?_) | (refine x4 (by kernel_rfl) (by kernel_rfl) fun K hK => ?_) | ((first | refine j5 ?_ | refine q6 ?_ | ((first | refine z1 (hK _ ?_) | refine q5 (hK _ _ (j4 (by kernel_rfl)) ?_)); clear hK K)); (first | show AWP _ _ _ _ _ | ((try simp only [q8]); first | show loopQ _ _ _ _ _ _ | show cutQ _ _ _ _ | show AWP _ _ _ _ _))) | ((first | refine j9 rfl rfl rfl ?_ | refine q10 rfl rfl rfl ?_); simp (maxSteps := 2000000) (disch := omega) only [go_sem, seval, hd, cb, ruleD, r1, r2]; (first | refine ⟨_, k1, ?_⟩ | refine ⟨_, k2, ?_⟩ | refine ⟨_, k3, ?_⟩)) | ((first | refine x7 [] rfl ?_ | refine j7 [] rfl ?_); simp (maxSteps := 2000000) (disch := omega) only [go_sem, seval, hd, cb, ruleD, r1, r2]; (repeat (first | refine ⟨by omega, ?_⟩ | refine ⟨True.intro, ?_⟩)))))
  refine x9 ⟨_, ?_, rfl⟩; rw [Try.results63]; simp (disch := omega) only [ResVars, ResVar, ptrLoc, go_sem, seval, hd, cb, ruleD, r1, r2]
theorem cmpO_lt {l : List Rule} {a b : Nat} : cmpO l a b < 0 ↔ ltR l a b := by
  unfold cmpO orI cmpI ltR
  generalize (l.getD b r0).pr = x
  generalize (l.getD a r0).pr = y
  by_cases h1 : x < y
  · rw [if_pos h1, if_neg (by omega)]; exact ⟨fun _ => .inl h1, fun _ => by omega⟩
  · rw [if_neg h1]
    by_cases h2 : y < x
    · rw [if_pos h2, if_neg (by omega)]; omega
    · rw [if_neg h2, if_pos rfl]
      by_cases h3 : a < b
      · rw [if_pos (by omega)]; omega
      · rw [if_neg (by omega)]
        split <;> omega
theorem cmpN_O (l : List Rule) (hl : l.length ≤ 1099511627776) : CmpN Try.prog 63 (ordO l) l.length (keyO l) (cmpO l) where
  call p q hp hq := compareO_c l p q hp hq hl
  lt p q hp hq := cmpO_lt.trans (keyO_lt hp hq).symm
  inj p q hp hq := keyO_inj hp hq
def lookI (l : List Rule) (k : Fin (l.length + 1)) : ASt :=
  ⟨[(10, .p (.d (.v (.int .i64 (k.val : Int))))), (9, .p (.d (.v (.int .i64 (l.length : Int))))), (3, .loc 7 0), (0, .p (.d (.sl 12 l.length (rowR l))))],
   [(7, .cells 125 [.p (.d (.sl 12 l.length (rowR l))), .ow 5 k.val 1 k.val]), (5, .own 3 1 k.val k.val (rowN id))]⟩
theorem catN_id (k : Nat) (i : Nat) (hi : i < k + 1) : catF k (rowN id) (fun i => [[Dat.v (.int .i64 (k : Int))]].getD i []) i = rowN id i := by
  unfold catF
  split
  · rfl
  · have : i = k := by omega
    subst this
    rw [Nat.sub_self]; rfl
set_option maxRecDepth 100000 in
set_option maxHeartbeats 4000000 in
theorem Look_c (l : List Rule) (hl : l.length ≤ 1099511627776) : ACalls Try.prog 42 [.d (.sl 12 l.length (rowR l))] (· = [.d (.sl 1 l.length (rowI (orderR l)))]) := by
  have hc := cmpN_O l hl
  unfold ordO at hc
  have d0 : Dom l.length l.length id := ⟨fun k hk => hk, by unfold seg; simp [List.nodup_range']⟩
  refine z11 Try.func42 rfl (by decide +kernel) (by rw [Try.ntmps42]; simp) ?_; rw [Try.ntmps42]; simp only [frOf]
  (repeat (first | refine j0 ?_ | refine q7 rfl ?_ | refine z7 rfl ?_ | refine x6 ?_ | (refine z2 fun K hK => ?_) | (refine x4 (by kernel_rfl) (by kernel_rfl) fun K hK => ?_) | ((first | refine j5 ?_ | refine q6 ?_ | ((first | refine z1 (hK _ ?_) | refine q5 (hK _ _ (j4 (by kernel_rfl)) ?_)); clear hK K)); (first | show AWP _ _ _ _ _ | ((try simp only [q8]); first | show loopQ _ _ _ _ _ _ | show cutQ _ _ _ _ | show AWP _ _ _ _ _))) | ((first | refine x7 [7] rfl ?_ | refine j7 [7] rfl ?_); simp (maxSteps := 2000000) (disch := omega) only [go_sem, seval, hd, cb, ruleD]; (repeat (first | refine ⟨by omega, ?_⟩ | refine ⟨True.intro, ?_⟩)))))
  refine awp_ownCell 7 5 1 1 3 (rowN id) rfl rfl (by omega) (by kernel_rfl) rfl ?_
  refine awp_loop (lookI l) (fun s => l.length - s.val) ⟨0, by omega⟩ ?_ (fun s => ?_)
  · unfold lookI
    refine Weak.list ?_ ?_; (all_goals simp (disch := omega) only [AllF, AllL, x10, j10, z10, exists_eq_left', Option.some.injEq, go_sem, seval, hd, cb, ruleD]); (all_goals (repeat' (with_reducible apply And.intro))); (all_goals try (first | exact z6 rfl | (refine q11 ?_; omega) | (refine z6 ?_; simp; done)))
    exact of_eq_true (z10 _)
  obtain ⟨k, hk⟩ := s
  unfold lookI
  by_cases h : k < l.length
  · (repeat (first | refine j0 ?_ | refine q7 rfl ?_ | refine z7 rfl ?_ | refine x6 ?_ | (refine z2 fun K hK => ?_) | (refine x4 (by kernel_rfl) (by kernel_rfl) fun K hK => ?_) | ((first | refine j5 ?_ | refine q6 ?_ | ((first | refine z1 (hK _ ?_) | refine q5 (hK _ _ (j4 (by kernel_rfl)) ?_)); clear hK K)); (first | show AWP _ _ _ _ _ | ((try simp only [q8]); first | show loopQ _ _ _ _ _ _ | show cutQ _ _ _ _ | show AWP _ _ _ _ _))) | ((first | refine x7 [7] rfl ?_ | refine j7 [7] rfl ?_); simp (maxSteps := 2000000) (disch := omega) only [go_sem, seval, hd, cb, ruleD]; (repeat (first | refine ⟨by omega, ?_⟩ | refine ⟨True.intro, ?_⟩)))))
    refine ⟨⟨k + 1, by omega⟩, by simp only []; omega, ?_⟩
    refine Weak.list ?_ ?_; (all_goals simp (disch := omega) only [AllF, AllL, x10, j10, z10, exists_eq_left', Option.some.injEq, go_sem, seval, hd, cb, ruleD]); (all_goals (repeat' (with_reducible apply And.intro))); (all_goals try (first | exact z6 rfl | (refine q11 ?_; omega) | (refine z6 ?_; simp; done)))
    exact lle_own rfl rfl (fun i hi => catN_id k i hi)
  · have : k = l.length := by omega
    subst this
    (repeat (first | refine j0 ?_ | refine q7 rfl ?_ | refine z7 rfl ?_ | refine x6 ?_ | (refine z2 fun K hK => ?_) | (refine x4 (by kernel_rfl) (by kernel_rfl) fun K hK => ?_) | ((first | refine j5 ?_ | refine q6 ?_ | ((first | refine z1 (hK _ ?_) | refine q5 (hK _ _ (j4 (by kernel_rfl)) ?_)); clear hK K)); (first | show AWP _ _ _ _ _ | ((try simp only [q8]); first | show loopQ _ _ _ _ _ _ | show cutQ _ _ _ _ | show AWP _ _ _ _ _))) | ((first | refine x7 [7] rfl ?_ | refine j7 [7] rfl ?_); simp (maxSteps := 2000000) (disch := omega) only [go_sem, seval, hd, cb, ruleD]; (repeat (first | refine ⟨by omega, ?_⟩ | refine ⟨True.intro, ?_⟩)))))
    refine walkS_weak (Weak.frz _ 29 7 (.func 63) 125 _ [.sl 12 l.length (rowR l)] rfl rfl (fun j d hd => ?_)) ?_
    · match j, hd with
      | 0, hd => cases hd; rfl
      | j + 1, hd => simp at hd
    (refine walkS_ex (step_mcallX [(1000, 5)] rfl rfl rfl rfl rfl rfl (SortN_c hc id l.length l.length hl d0) (fun _ => rfl) (j11 (by repeat (first | exact trivial | refine ⟨rfl, ?_⟩)) (by kernel_rfl)) (fun _ => (j11 (by repeat (first | exact trivial | refine ⟨rfl, ?_⟩)) (by kernel_rfl)))) ?_); rintro ⟨y,hy,hy2⟩; simp (maxSteps := 2000000) (disch := omega) only [go_sem, seval, hd, cb, ruleD]
    (repeat (first | refine j0 ?_ | refine q7 rfl ?_ | refine z7 rfl ?_ | refine x6 ?_ | (refine z2 fun K hK => ?_) | (refine x4 (by kernel_rfl) (by kernel_rfl) fun K hK => ?_) | ((first | refine j5 ?_ | refine q6 ?_ | ((first | refine z1 (hK _ ?_) | refine q5 (hK _ _ (j4 (by kernel_rfl)) ?_)); clear hK K)); (first | show AWP _ _ _ _ _ | ((try simp only [q8]); first | show loopQ _ _ _ _ _ _ | show cutQ _ _ _ _ | show AWP _ _ _ _ _))) | ((first | refine x7 [7] rfl ?_ | refine j7 [7] rfl ?_); simp (maxSteps := 2000000) (disch := omega) only [go_sem, seval, hd, cb, ruleD]; (repeat (first | refine ⟨by omega, ?_⟩ | refine ⟨True.intro, ?_⟩)))))
    refine awp_freeze 2 5 l.length 1 l.length 3 _ rfl rfl ?_
    refine awp_slot 2 _ (.p (.d (.sl 1 l.length (rowI (orderR l))))) rfl (le_sl rfl fun i hi => ?_) ?_
    · unfold rowN rowI
      rw [sorted_order hy hy2 i hi]
    refine x9 ⟨_, ?_, rfl⟩; rw [Try.results42]; simp (disch := omega) only [ResVars, ResVar, ptrLoc, go_sem, seval, hd, cb, ruleD]
end Go.Proofs.Ytbiildleaelodaa
set_option linter.unusedSimpArgs false
set_option linter.unusedVariables false
namespace Go.Proofs.Ytbiildleaelodaa
open Go.Proofs.Ytbiildleaelodaa.AL
theorem catF_snoc (out : List Cube) (c : Cube) (i : Nat) (hlt : i < out.length + 1) : catF out.length (rowC out) (fun i => [cb c].getD i []) i = rowC (out ++ [c]) i := by
  unfold catF rowC
  by_cases h : i < out.length
  · rw [if_pos h, List.getD_eq_getElem?_getD, List.getD_eq_getElem?_getD, List.getElem?_append_left h]
  · have : i = out.length := by omega
    subst this
    simp
structure LessS where
  k : Nat
  out : List Cube
  r : Cube
def lessI (a b : Cube) (L : List Cube) (s : {s : LessS // s.k ≤ 128 ∧ s.out.length + s.k ≤ 128 ∧ s.out ++ lessGo b (b.c &&& ~~~a.c) s.k s.r = L}) : ASt :=
  ⟨[(10, .p (.d (.v (.int .i64 ((s.val.k : Int) - 1))))), (9, .loc 9 0), (8, .loc 8 0), (7, .gr 7 s.val.out.length 4 s.val.out.length (rowC s.val.out)), (4, .p (.d (.v (.slice none 0 0)))), (3, .p (.d (.bx (cb b)))), (2, .p (.d (.bx (cb a))))],
   [(9, .cells 46 [.p (.d (.v (.int .u64 (hi s.val.r.v)))), .p (.d (.v (.int .u64 (lo s.val.r.v)))), .p (.d (.v (.int .u64 (hi s.val.r.c)))), .p (.d (.v (.int .u64 (lo s.val.r.c))))]),
    (8, .cells 25 [.p (.d (.v (.int .u64 (hi (b.c &&& ~~~a.c))))), .p (.d (.v (.int .u64 (lo (b.c &&& ~~~a.c)))))]), (7, .grow 46 4 s.val.out.length s.val.out.length)]⟩
set_option maxHeartbeats 1000000 in
theorem Less_cube_c' (a b : Cube) (L : List Cube) (hL : lessL a b = L) : ACalls Try.prog 96 [.agg (cb a), .agg (cb b)] (· = [.d (.sl 4 L.length (rowC L))]) := by
  unfold lessL at hL
  cases h : a.sound
  · simp only [h, Bool.false_and, Bool.false_eq_true, if_false] at hL
    subst hL
    refine z11 Try.func96 rfl (by decide +kernel) (by rw [Try.ntmps96]; simp) ?_; rw [Try.ntmps96]; simp only [frOf]
    (repeat refine j0 ?_); (first | refine z2 fun K hK => ?_ | refine x4 (by kernel_rfl) (by kernel_rfl) fun K hK => ?_); (first | refine z8 [] _ _ ?_ | refine x8 [] _ _ _ ?_); simp (maxSteps := 2000000) (disch := omega) only [go_sem, ↓reduceIte, reduceCtorEq, Nat.reduceLT, Nat.reducePow, Nat.reduceLeDiff, Nat.reduceAdd, Nat.reduceMul, Nat.reduceSub, Nat.reduceEqDiff, Nat.reduceBEq, Int.reduceToNat, Int.reduceBEq, Int.reduceBNe, hd, cb, x5, j6, j8, q9, h]; (repeat refine ⟨by omega, ?_⟩); (first | (refine z1 (hK _ ?_); clear hK K; show AWP _ _ _ _ _) | (refine q5 (hK _ _ (j4 (by kernel_rfl)) ?_); clear hK K; show AWP _ _ _ _ _))
    (repeat refine j0 ?_); (first | refine z2 fun K hK => ?_ | refine x4 (by kernel_rfl) (by kernel_rfl) fun K hK => ?_)
    (first | refine z8 [] _ _ ?_ | refine x8 [] _ _ _ ?_); simp (maxSteps := 2000000) (disch := omega) only [go_sem, ↓reduceIte, reduceCtorEq, Nat.reduceLT, Nat.reducePow, Nat.reduceLeDiff, Nat.reduceAdd, Nat.reduceMul, Nat.reduceSub, Nat.reduceEqDiff, Nat.reduceBEq, Int.reduceToNat, Int.reduceBEq, Int.reduceBNe, hd, cb, x5, j6, j8, q9, h]; (repeat refine ⟨by omega, ?_⟩)
    (first | refine j9 rfl rfl rfl ?_ | refine q10 rfl rfl rfl ?_); simp (maxSteps := 2000000) (disch := omega) only [go_sem, ↓reduceIte, reduceCtorEq, Nat.reduceLT, Nat.reducePow, Nat.reduceLeDiff, Nat.reduceAdd, Nat.reduceMul, Nat.reduceSub, Nat.reduceEqDiff, Nat.reduceBEq, Int.reduceToNat, Int.reduceBEq, Int.reduceBNe, hd, cb, x5, j6, j8, q9, h]
    refine ⟨_, Sound_c a, ?_⟩
    (first | refine z8 [] _ _ ?_ | refine x8 [] _ _ _ ?_); simp (maxSteps := 2000000) (disch := omega) only [go_sem, ↓reduceIte, reduceCtorEq, Nat.reduceLT, Nat.reducePow, Nat.reduceLeDiff, Nat.reduceAdd, Nat.reduceMul, Nat.reduceSub, Nat.reduceEqDiff, Nat.reduceBEq, Int.reduceToNat, Int.reduceBEq, Int.reduceBNe, hd, cb, x5, j6, j8, q9, h]; (repeat refine ⟨by omega, ?_⟩)
    (first | (refine z1 (hK _ ?_); clear hK K; show AWP _ _ _ _ _) | (refine q5 (hK _ _ (j4 (by kernel_rfl)) ?_); clear hK K; show AWP _ _ _ _ _))
    (repeat refine j0 ?_); refine awp_cond rfl (fun _ => ?_) (fun ht => absurd ht (by decide))
    (repeat refine j0 ?_); (first | refine z2 fun K hK => ?_ | refine x4 (by kernel_rfl) (by kernel_rfl) fun K hK => ?_); (first | refine z8 [] _ _ ?_ | refine x8 [] _ _ _ ?_); simp (maxSteps := 2000000) (disch := omega) only [go_sem, ↓reduceIte, reduceCtorEq, Nat.reduceLT, Nat.reducePow, Nat.reduceLeDiff, Nat.reduceAdd, Nat.reduceMul, Nat.reduceSub, Nat.reduceEqDiff, Nat.reduceBEq, Int.reduceToNat, Int.reduceBEq, Int.reduceBNe, hd, cb, x5, j6, j8, q9, h]; (repeat refine ⟨by omega, ?_⟩); (first | (refine z1 (hK _ ?_); clear hK K; show AWP _ _ _ _ _) | (refine q5 (hK _ _ (j4 (by kernel_rfl)) ?_); clear hK K; show AWP _ _ _ _ _))
    refine awp_slot 4 _ (.p (.d (.sl 4 0 (rowC [])))) rfl (le_nil 4 _ _ rfl) ?_
    refine x9 ⟨_, ?_, rfl⟩; rw [Try.results96]; simp (disch := omega) only [ResVars, ResVar, ptrLoc, go_sem, ↓reduceIte, reduceCtorEq, Nat.reduceLT, Nat.reducePow, Nat.reduceLeDiff, Nat.reduceAdd, Nat.reduceMul, Nat.reduceSub, Nat.reduceEqDiff, Nat.reduceBEq, Int.reduceToNat, Int.reduceBEq, Int.reduceBNe, hd, cb, x5, j6, j8, q9, h]
  · cases h2 : b.sound
    · simp only [h, h2, Bool.and_false, Bool.false_eq_true, if_false] at hL
      subst hL
      refine z11 Try.func96 rfl (by decide +kernel) (by rw [Try.ntmps96]; simp) ?_; rw [Try.ntmps96]; simp only [frOf]
      (repeat refine j0 ?_); (first | refine z2 fun K hK => ?_ | refine x4 (by kernel_rfl) (by kernel_rfl) fun K hK => ?_); (first | refine z8 [] _ _ ?_ | refine x8 [] _ _ _ ?_); simp (maxSteps := 2000000) (disch := omega) only [go_sem, ↓reduceIte, reduceCtorEq, Nat.reduceLT, Nat.reducePow, Nat.reduceLeDiff, Nat.reduceAdd, Nat.reduceMul, Nat.reduceSub, Nat.reduceEqDiff, Nat.reduceBEq, Int.reduceToNat, Int.reduceBEq, Int.reduceBNe, hd, cb, x5, j6, j8, q9, h, h2]; (repeat refine ⟨by omega, ?_⟩); (first | (refine z1 (hK _ ?_); clear hK K; show AWP _ _ _ _ _) | (refine q5 (hK _ _ (j4 (by kernel_rfl)) ?_); clear hK K; show AWP _ _ _ _ _))
      (repeat refine j0 ?_); (first | refine z2 fun K hK => ?_ | refine x4 (by kernel_rfl) (by kernel_rfl) fun K hK => ?_)
      (first | refine z8 [] _ _ ?_ | refine x8 [] _ _ _ ?_); simp (maxSteps := 2000000) (disch := omega) only [go_sem, ↓reduceIte, reduceCtorEq, Nat.reduceLT, Nat.reducePow, Nat.reduceLeDiff, Nat.reduceAdd, Nat.reduceMul, Nat.reduceSub, Nat.reduceEqDiff, Nat.reduceBEq, Int.reduceToNat, Int.reduceBEq, Int.reduceBNe, hd, cb, x5, j6, j8, q9, h, h2]; (repeat refine ⟨by omega, ?_⟩)
      (first | refine j9 rfl rfl rfl ?_ | refine q10 rfl rfl rfl ?_); simp (maxSteps := 2000000) (disch := omega) only [go_sem, ↓reduceIte, reduceCtorEq, Nat.reduceLT, Nat.reducePow, Nat.reduceLeDiff, Nat.reduceAdd, Nat.reduceMul, Nat.reduceSub, Nat.reduceEqDiff, Nat.reduceBEq, Int.reduceToNat, Int.reduceBEq, Int.reduceBNe, hd, cb, x5, j6, j8, q9, h, h2]
      refine ⟨_, Sound_c a, ?_⟩
      (first | refine z8 [] _ _ ?_ | refine x8 [] _ _ _ ?_); simp (maxSteps := 2000000) (disch := omega) only [go_sem, ↓reduceIte, reduceCtorEq, Nat.reduceLT, Nat.reducePow, Nat.reduceLeDiff, Nat.reduceAdd, Nat.reduceMul, Nat.reduceSub, Nat.reduceEqDiff, Nat.reduceBEq, Int.reduceToNat, Int.reduceBEq, Int.reduceBNe, hd, cb, x5, j6, j8, q9, h, h2]; (repeat refine ⟨by omega, ?_⟩)
      (first | refine j9 rfl rfl rfl ?_ | refine q10 rfl rfl rfl ?_); simp (maxSteps := 2000000) (disch := omega) only [go_sem, ↓reduceIte, reduceCtorEq, Nat.reduceLT, Nat.reducePow, Nat.reduceLeDiff, Nat.reduceAdd, Nat.reduceMul, Nat.reduceSub, Nat.reduceEqDiff, Nat.reduceBEq, Int.reduceToNat, Int.reduceBEq, Int.reduceBNe, hd, cb, x5, j6, j8, q9, h, h2]
      refine ⟨_, Sound_c b, ?_⟩
      (first | refine z8 [] _ _ ?_ | refine x8 [] _ _ _ ?_); simp (maxSteps := 2000000) (disch := omega) only [go_sem, ↓reduceIte, reduceCtorEq, Nat.reduceLT, Nat.reducePow, Nat.reduceLeDiff, Nat.reduceAdd, Nat.reduceMul, Nat.reduceSub, Nat.reduceEqDiff, Nat.reduceBEq, Int.reduceToNat, Int.reduceBEq, Int.reduceBNe, hd, cb, x5, j6, j8, q9, h, h2]; (repeat refine ⟨by omega, ?_⟩)
      (first | (refine z1 (hK _ ?_); clear hK K; show AWP _ _ _ _ _) | (refine q5 (hK _ _ (j4 (by kernel_rfl)) ?_); clear hK K; show AWP _ _ _ _ _))
      (repeat refine j0 ?_); refine awp_cond rfl (fun _ => ?_) (fun ht => absurd ht (by decide))
      (repeat refine j0 ?_); (first | refine z2 fun K hK => ?_ | refine x4 (by kernel_rfl) (by kernel_rfl) fun K hK => ?_); (first | refine z8 [] _ _ ?_ | refine x8 [] _ _ _ ?_); simp (maxSteps := 2000000) (disch := omega) only [go_sem, ↓reduceIte, reduceCtorEq, Nat.reduceLT, Nat.reducePow, Nat.reduceLeDiff, Nat.reduceAdd, Nat.reduceMul, Nat.reduceSub, Nat.reduceEqDiff, Nat.reduceBEq, Int.reduceToNat, Int.reduceBEq, Int.reduceBNe, hd, cb, x5, j6, j8, q9, h, h2]; (repeat refine ⟨by omega, ?_⟩); (first | (refine z1 (hK _ ?_); clear hK K; show AWP _ _ _ _ _) | (refine q5 (hK _ _ (j4 (by kernel_rfl)) ?_); clear hK K; show AWP _ _ _ _ _))
      refine awp_slot 4 _ (.p (.d (.sl 4 0 (rowC [])))) rfl (le_nil 4 _ _ rfl) ?_
      refine x9 ⟨_, ?_, rfl⟩; rw [Try.results96]; simp (disch := omega) only [ResVars, ResVar, ptrLoc, go_sem, ↓reduceIte, reduceCtorEq, Nat.reduceLT, Nat.reducePow, Nat.reduceLeDiff, Nat.reduceAdd, Nat.reduceMul, Nat.reduceSub, Nat.reduceEqDiff, Nat.reduceBEq, Int.reduceToNat, Int.reduceBEq, Int.reduceBNe, hd, cb, x5, j6, j8, q9, h, h2]
    · cases h3 : meetO a b
      all_goals
        simp only [h, h2, h3, Bool.and_self, Bool.false_eq_true, if_false, if_true] at hL
        refine z11 Try.func96 rfl (by decide +kernel) (by rw [Try.ntmps96]; simp) ?_; rw [Try.ntmps96]; simp only [frOf]
        (repeat refine j0 ?_); (first | refine z2 fun K hK => ?_ | refine x4 (by kernel_rfl) (by kernel_rfl) fun K hK => ?_); (first | refine z8 [] _ _ ?_ | refine x8 [] _ _ _ ?_); simp (maxSteps := 2000000) (disch := omega) only [go_sem, ↓reduceIte, reduceCtorEq, Nat.reduceLT, Nat.reducePow, Nat.reduceLeDiff, Nat.reduceAdd, Nat.reduceMul, Nat.reduceSub, Nat.reduceEqDiff, Nat.reduceBEq, Int.reduceToNat, Int.reduceBEq, Int.reduceBNe, hd, cb, x5, j6, j8, q9, h, h2, h3]; (repeat refine ⟨by omega, ?_⟩); (first | (refine z1 (hK _ ?_); clear hK K; show AWP _ _ _ _ _) | (refine q5 (hK _ _ (j4 (by kernel_rfl)) ?_); clear hK K; show AWP _ _ _ _ _))
        (repeat refine j0 ?_); (first | refine z2 fun K hK => ?_ | refine x4 (by kernel_rfl) (by kernel_rfl) fun K hK => ?_)
        (first | refine z8 [] _ _ ?_ | refine x8 [] _ _ _ ?_); simp (maxSteps := 2000000) (disch := omega) only [go_sem, ↓reduceIte, reduceCtorEq, Nat.reduceLT, Nat.reducePow, Nat.reduceLeDiff, Nat.reduceAdd, Nat.reduceMul, Nat.reduceSub, Nat.reduceEqDiff, Nat.reduceBEq, Int.reduceToNat, Int.reduceBEq, Int.reduceBNe, hd, cb, x5, j6, j8, q9, h, h2, h3]; (repeat refine ⟨by omega, ?_⟩)
        (first | refine j9 rfl rfl rfl ?_ | refine q10 rfl rfl rfl ?_); simp (maxSteps := 2000000) (disch := omega) only [go_sem, ↓reduceIte, reduceCtorEq, Nat.reduceLT, Nat.reducePow, Nat.reduceLeDiff, Nat.reduceAdd, Nat.reduceMul, Nat.reduceSub, Nat.reduceEqDiff, Nat.reduceBEq, Int.reduceToNat, Int.reduceBEq, Int.reduceBNe, hd, cb, x5, j6, j8, q9, h, h2, h3]
        refine ⟨_, Sound_c a, ?_⟩
        (first | refine z8 [] _ _ ?_ | refine x8 [] _ _ _ ?_); simp (maxSteps := 2000000) (disch := omega) only [go_sem, ↓reduceIte, reduceCtorEq, Nat.reduceLT, Nat.reducePow, Nat.reduceLeDiff, Nat.reduceAdd, Nat.reduceMul, Nat.reduceSub, Nat.reduceEqDiff, Nat.reduceBEq, Int.reduceToNat, Int.reduceBEq, Int.reduceBNe, hd, cb, x5, j6, j8, q9, h, h2, h3]; (repeat refine ⟨by omega, ?_⟩)
        (first | refine j9 rfl rfl rfl ?_ | refine q10 rfl rfl rfl ?_); simp (maxSteps := 2000000) (disch := omega) only [go_sem, ↓reduceIte, reduceCtorEq, Nat.reduceLT, Nat.reducePow, Nat.reduceLeDiff, Nat.reduceAdd, Nat.reduceMul, Nat.reduceSub, Nat.reduceEqDiff, Nat.reduceBEq, Int.reduceToNat, Int.reduceBEq, Int.reduceBNe, hd, cb, x5, j6, j8, q9, h, h2, h3]
        refine ⟨_, Sound_c b, ?_⟩
        (first | refine z8 [] _ _ ?_ | refine x8 [] _ _ _ ?_); simp (maxSteps := 2000000) (disch := omega) only [go_sem, ↓reduceIte, reduceCtorEq, Nat.reduceLT, Nat.reducePow, Nat.reduceLeDiff, Nat.reduceAdd, Nat.reduceMul, Nat.reduceSub, Nat.reduceEqDiff, Nat.reduceBEq, Int.reduceToNat, Int.reduceBEq, Int.reduceBNe, hd, cb, x5, j6, j8, q9, h, h2, h3]; (repeat refine ⟨by omega, ?_⟩)
        (first | (refine z1 (hK _ ?_); clear hK K; show AWP _ _ _ _ _) | (refine q5 (hK _ _ (j4 (by kernel_rfl)) ?_); clear hK K; show AWP _ _ _ _ _))
        (repeat refine j0 ?_); refine awp_cond rfl (fun ht => absurd ht (by decide)) (fun _ => ?_); refine j5 ?_; show AWP _ _ _ _ _
        (repeat refine j0 ?_); (first | refine z2 fun K hK => ?_ | refine x4 (by kernel_rfl) (by kernel_rfl) fun K hK => ?_)
        (first | refine z8 [] _ _ ?_ | refine x8 [] _ _ _ ?_); simp (maxSteps := 2000000) (disch := omega) only [go_sem, ↓reduceIte, reduceCtorEq, Nat.reduceLT, Nat.reducePow, Nat.reduceLeDiff, Nat.reduceAdd, Nat.reduceMul, Nat.reduceSub, Nat.reduceEqDiff, Nat.reduceBEq, Int.reduceToNat, Int.reduceBEq, Int.reduceBNe, hd, cb, x5, j6, j8, q9, h, h2, h3]; (repeat refine ⟨by omega, ?_⟩)
        (first | refine j9 rfl rfl rfl ?_ | refine q10 rfl rfl rfl ?_); simp (maxSteps := 2000000) (disch := omega) only [go_sem, ↓reduceIte, reduceCtorEq, Nat.reduceLT, Nat.reducePow, Nat.reduceLeDiff, Nat.reduceAdd, Nat.reduceMul, Nat.reduceSub, Nat.reduceEqDiff, Nat.reduceBEq, Int.reduceToNat, Int.reduceBEq, Int.reduceBNe, hd, cb, x5, j6, j8, q9, h, h2, h3]
        refine ⟨_, Meet_c a b, ?_⟩
        (first | refine z8 [] _ _ ?_ | refine x8 [] _ _ _ ?_); simp (maxSteps := 2000000) (disch := omega) only [go_sem, ↓reduceIte, reduceCtorEq, Nat.reduceLT, Nat.reducePow, Nat.reduceLeDiff, Nat.reduceAdd, Nat.reduceMul, Nat.reduceSub, Nat.reduceEqDiff, Nat.reduceBEq, Int.reduceToNat, Int.reduceBEq, Int.reduceBNe, hd, cb, x5, j6, j8, q9, h, h2, h3]; (repeat refine ⟨by omega, ?_⟩)
        (first | (refine z1 (hK _ ?_); clear hK K; show AWP _ _ _ _ _) | (refine q5 (hK _ _ (j4 (by kernel_rfl)) ?_); clear hK K; show AWP _ _ _ _ _))
        (repeat refine j0 ?_); (first | refine z2 fun K hK => ?_ | refine x4 (by kernel_rfl) (by kernel_rfl) fun K hK => ?_); (first | refine z8 [] _ _ ?_ | refine x8 [] _ _ _ ?_); simp (maxSteps := 2000000) (disch := omega) only [go_sem, ↓reduceIte, reduceCtorEq, Nat.reduceLT, Nat.reducePow, Nat.reduceLeDiff, Nat.reduceAdd, Nat.reduceMul, Nat.reduceSub, Nat.reduceEqDiff, Nat.reduceBEq, Int.reduceToNat, Int.reduceBEq, Int.reduceBNe, hd, cb, x5, j6, j8, q9, h, h2, h3]; (repeat refine ⟨by omega, ?_⟩); (first | (refine z1 (hK _ ?_); clear hK K; show AWP _ _ _ _ _) | (refine q5 (hK _ _ (j4 (by kernel_rfl)) ?_); clear hK K; show AWP _ _ _ _ _))
      · (repeat refine j0 ?_); refine awp_cond rfl (fun _ => ?_) (fun ht => absurd ht (by decide))
        (repeat refine j0 ?_); (first | refine z2 fun K hK => ?_ | refine x4 (by kernel_rfl) (by kernel_rfl) fun K hK => ?_); (first | refine z8 [] _ _ ?_ | refine x8 [] _ _ _ ?_); simp (maxSteps := 2000000) (disch := omega) only [go_sem, ↓reduceIte, reduceCtorEq, Nat.reduceLT, Nat.reducePow, Nat.reduceLeDiff, Nat.reduceAdd, Nat.reduceMul, Nat.reduceSub, Nat.reduceEqDiff, Nat.reduceBEq, Int.reduceToNat, Int.reduceBEq, Int.reduceBNe, hd, cb, x5, j6, j8, q9, h, h2, h3]; (repeat refine ⟨by omega, ?_⟩); (first | (refine z1 (hK _ ?_); clear hK K; show AWP _ _ _ _ _) | (refine q5 (hK _ _ (j4 (by kernel_rfl)) ?_); clear hK K; show AWP _ _ _ _ _))
        subst hL
        refine awp_slot 4 _ _ rfl (le_sl (n' := 1) (f' := rowC [a]) rfl (fun i hlt => ?_)) ?_
        · have : i = 0 := by omega
          subst this; rfl
        refine x9 ⟨_, ?_, rfl⟩; rw [Try.results96]; simp (disch := omega) only [ResVars, ResVar, ptrLoc, go_sem, ↓reduceIte, reduceCtorEq, Nat.reduceLT, Nat.reducePow, Nat.reduceLeDiff, Nat.reduceAdd, Nat.reduceMul, Nat.reduceSub, Nat.reduceEqDiff, Nat.reduceBEq, Int.reduceToNat, Int.reduceBEq, Int.reduceBNe, hd, cb, x5, j6, j8, q9, h, h2, h3]
      · (repeat refine j0 ?_); refine awp_cond rfl (fun ht => absurd ht (by decide)) (fun _ => ?_); refine j5 ?_; show AWP _ _ _ _ _
        (repeat refine j0 ?_); (first | refine z2 fun K hK => ?_ | refine x4 (by kernel_rfl) (by kernel_rfl) fun K hK => ?_); (first | refine z8 [] _ _ ?_ | refine x8 [] _ _ _ ?_); simp (maxSteps := 2000000) (disch := omega) only [go_sem, ↓reduceIte, reduceCtorEq, Nat.reduceLT, Nat.reducePow, Nat.reduceLeDiff, Nat.reduceAdd, Nat.reduceMul, Nat.reduceSub, Nat.reduceEqDiff, Nat.reduceBEq, Int.reduceToNat, Int.reduceBEq, Int.reduceBNe, hd, cb, x5, j6, j8, q9, h, h2, h3]; (repeat refine ⟨by omega, ?_⟩); (first | (refine z1 (hK _ ?_); clear hK K; show AWP _ _ _ _ _) | (refine q5 (hK _ _ (j4 (by kernel_rfl)) ?_); clear hK K; show AWP _ _ _ _ _))
        (repeat refine j0 ?_); (first | refine z2 fun K hK => ?_ | refine x4 (by kernel_rfl) (by kernel_rfl) fun K hK => ?_)
        (first | refine z8 [] _ _ ?_ | refine x8 [] _ _ _ ?_); simp (maxSteps := 2000000) (disch := omega) only [go_sem, ↓reduceIte, reduceCtorEq, Nat.reduceLT, Nat.reducePow, Nat.reduceLeDiff, Nat.reduceAdd, Nat.reduceMul, Nat.reduceSub, Nat.reduceEqDiff, Nat.reduceBEq, Int.reduceToNat, Int.reduceBEq, Int.reduceBNe, hd, cb, x5, j6, j8, q9, h, h2, h3]; (repeat refine ⟨by omega, ?_⟩)
        (first | refine j9 rfl rfl rfl ?_ | refine q10 rfl rfl rfl ?_); simp (maxSteps := 2000000) (disch := omega) only [go_sem, ↓reduceIte, reduceCtorEq, Nat.reduceLT, Nat.reducePow, Nat.reduceLeDiff, Nat.reduceAdd, Nat.reduceMul, Nat.reduceSub, Nat.reduceEqDiff, Nat.reduceBEq, Int.reduceToNat, Int.reduceBEq, Int.reduceBNe, hd, cb, x5, j6, j8, q9, h, h2, h3]
        refine ⟨_, Less_c b.c a.c, ?_⟩
        (first | refine z8 [] _ _ ?_ | refine x8 [] _ _ _ ?_); simp (maxSteps := 2000000) (disch := omega) only [go_sem, ↓reduceIte, reduceCtorEq, Nat.reduceLT, Nat.reducePow, Nat.reduceLeDiff, Nat.reduceAdd, Nat.reduceMul, Nat.reduceSub, Nat.reduceEqDiff, Nat.reduceBEq, Int.reduceToNat, Int.reduceBEq, Int.reduceBNe, hd, cb, x5, j6, j8, q9, h, h2, h3]; (repeat refine ⟨by omega, ?_⟩)
        (first | (refine z1 (hK _ ?_); clear hK K; show AWP _ _ _ _ _) | (refine q5 (hK _ _ (j4 (by kernel_rfl)) ?_); clear hK K; show AWP _ _ _ _ _))
        (repeat refine j0 ?_); (first | refine z2 fun K hK => ?_ | refine x4 (by kernel_rfl) (by kernel_rfl) fun K hK => ?_); (first | refine z8 [] _ _ ?_ | refine x8 [] _ _ _ ?_); simp (maxSteps := 2000000) (disch := omega) only [go_sem, ↓reduceIte, reduceCtorEq, Nat.reduceLT, Nat.reducePow, Nat.reduceLeDiff, Nat.reduceAdd, Nat.reduceMul, Nat.reduceSub, Nat.reduceEqDiff, Nat.reduceBEq, Int.reduceToNat, Int.reduceBEq, Int.reduceBNe, hd, cb, x5, j6, j8, q9, h, h2, h3]; (repeat refine ⟨by omega, ?_⟩); (first | (refine z1 (hK _ ?_); clear hK K; show AWP _ _ _ _ _) | (refine q5 (hK _ _ (j4 (by kernel_rfl)) ?_); clear hK K; show AWP _ _ _ _ _))
        (repeat refine j0 ?_); (first | refine z2 fun K hK => ?_ | refine x4 (by kernel_rfl) (by kernel_rfl) fun K hK => ?_); (first | refine z8 [] _ _ ?_ | refine x8 [] _ _ _ ?_); simp (maxSteps := 2000000) (disch := omega) only [go_sem, ↓reduceIte, reduceCtorEq, Nat.reduceLT, Nat.reducePow, Nat.reduceLeDiff, Nat.reduceAdd, Nat.reduceMul, Nat.reduceSub, Nat.reduceEqDiff, Nat.reduceBEq, Int.reduceToNat, Int.reduceBEq, Int.reduceBNe, hd, cb, x5, j6, j8, q9, h, h2, h3]; (repeat refine ⟨by omega, ?_⟩); (first | (refine z1 (hK _ ?_); clear hK K; show AWP _ _ _ _ _) | (refine q5 (hK _ _ (j4 (by kernel_rfl)) ?_); clear hK K; show AWP _ _ _ _ _))
        refine awp_grow 7 7 4 46 (rowC []) rfl (by kernel_rfl) rfl ?_
        refine x6 (awp_loop (lessI a b L) (fun s => s.val.k) ⟨⟨128, [], a⟩, by simp, by simp, by rw [List.nil_append]; exact hL⟩ ?_ (fun s => ?_))
        · unfold lessI
          refine Weak.list ?_ ?_; (all_goals simp (disch := omega) only [AllF, AllL, x10, j10, z10, exists_eq_left', Option.some.injEq, go_sem, ↓reduceIte, reduceCtorEq, Nat.reduceLT, Nat.reducePow, Nat.reduceLeDiff, Nat.reduceAdd, Nat.reduceMul, Nat.reduceSub, Nat.reduceEqDiff, Nat.reduceBEq, Int.reduceToNat, Int.reduceBEq, Int.reduceBNe, hd, cb, x5, j6, j8, q9, h, h2, h3]); (all_goals (repeat' (with_reducible apply And.intro))); (all_goals try (first | exact z6 rfl | (refine q11 ?_; omega) | (refine z6 ?_; simp; done)))
        obtain ⟨⟨k, out, r⟩, hk, hl, he⟩ := s
        unfold lessI
        simp only [] at hk hl he
        cases k with
        | zero =>
          (repeat refine j0 ?_); (first | refine z2 fun K hK => ?_ | refine x4 (by kernel_rfl) (by kernel_rfl) fun K hK => ?_); (first | refine z8 [] _ _ ?_ | refine x8 [] _ _ _ ?_); simp (maxSteps := 2000000) (disch := omega) only [go_sem, ↓reduceIte, reduceCtorEq, Nat.reduceLT, Nat.reducePow, Nat.reduceLeDiff, Nat.reduceAdd, Nat.reduceMul, Nat.reduceSub, Nat.reduceEqDiff, Nat.reduceBEq, Int.reduceToNat, Int.reduceBEq, Int.reduceBNe, hd, cb, x5, j6, j8, q9, h, h2, h3]; (repeat refine ⟨by omega, ?_⟩); (first | (refine z1 (hK _ ?_); clear hK K; show AWP _ _ _ _ _) | (refine q5 (hK _ _ (j4 (by kernel_rfl)) ?_); clear hK K; show AWP _ _ _ _ _))
          refine awp_cond rfl (fun ht => absurd ht (by decide)) (fun _ => ?_)
          refine q6 ?_
          show AWP _ _ _ _ _
          (repeat refine j0 ?_); (first | refine z2 fun K hK => ?_ | refine x4 (by kernel_rfl) (by kernel_rfl) fun K hK => ?_); (first | refine z8 [] _ _ ?_ | refine x8 [] _ _ _ ?_); simp (maxSteps := 2000000) (disch := omega) only [go_sem, ↓reduceIte, reduceCtorEq, Nat.reduceLT, Nat.reducePow, Nat.reduceLeDiff, Nat.reduceAdd, Nat.reduceMul, Nat.reduceSub, Nat.reduceEqDiff, Nat.reduceBEq, Int.reduceToNat, Int.reduceBEq, Int.reduceBNe, hd, cb, x5, j6, j8, q9, h, h2, h3]; (repeat refine ⟨by omega, ?_⟩); (first | (refine z1 (hK _ ?_); clear hK K; show AWP _ _ _ _ _) | (refine q5 (hK _ _ (j4 (by kernel_rfl)) ?_); clear hK K; show AWP _ _ _ _ _))
          refine awp_slot 4 _ (.p (.d (.sl 4 L.length (rowC L)))) rfl ?_ ?_
          · simp only [lessGo, List.append_nil] at he
            rw [← he]
            exact le_gr rfl (fun _ _ => rfl)
          refine x9 ⟨_, ?_, rfl⟩; rw [Try.results96]; simp (disch := omega) only [ResVars, ResVar, ptrLoc, go_sem, ↓reduceIte, reduceCtorEq, Nat.reduceLT, Nat.reducePow, Nat.reduceLeDiff, Nat.reduceAdd, Nat.reduceMul, Nat.reduceSub, Nat.reduceEqDiff, Nat.reduceBEq, Int.reduceToNat, Int.reduceBEq, Int.reduceBNe, hd, cb, x5, j6, j8, q9, h, h2, h3]
        | succ n =>
          have bit := Bit_c (b.c &&& ~~~a.c) (n : Int)
          rw [if_pos ⟨by omega, by omega⟩, Int.toNat_natCast] at bit
          simp only [cs1]
          cases hb : (b.c &&& ~~~a.c).getLsbD n
          all_goals
            rw [hb] at bit
            (repeat refine j0 ?_); (first | refine z2 fun K hK => ?_ | refine x4 (by kernel_rfl) (by kernel_rfl) fun K hK => ?_); (first | refine z8 [] _ _ ?_ | refine x8 [] _ _ _ ?_); simp (maxSteps := 2000000) (disch := omega) only [go_sem, ↓reduceIte, reduceCtorEq, Nat.reduceLT, Nat.reducePow, Nat.reduceLeDiff, Nat.reduceAdd, Nat.reduceMul, Nat.reduceSub, Nat.reduceEqDiff, Nat.reduceBEq, Int.reduceToNat, Int.reduceBEq, Int.reduceBNe, hd, cb, x5, j6, j8, q9, h, h2, h3]; (repeat refine ⟨by omega, ?_⟩); (first | (refine z1 (hK _ ?_); clear hK K; show AWP _ _ _ _ _) | (refine q5 (hK _ _ (j4 (by kernel_rfl)) ?_); clear hK K; show AWP _ _ _ _ _))
            (repeat refine j0 ?_); refine awp_cond rfl (fun _ => ?_) (fun ht => absurd ht (by decide))
            refine j5 ?_; show AWP _ _ _ _ _
            refine j0 (x6 ?_)
            (repeat refine j0 ?_); (first | refine z2 fun K hK => ?_ | refine x4 (by kernel_rfl) (by kernel_rfl) fun K hK => ?_)
            (first | refine z8 [] _ _ ?_ | refine x8 [] _ _ _ ?_); simp (maxSteps := 2000000) (disch := omega) only [go_sem, ↓reduceIte, reduceCtorEq, Nat.reduceLT, Nat.reducePow, Nat.reduceLeDiff, Nat.reduceAdd, Nat.reduceMul, Nat.reduceSub, Nat.reduceEqDiff, Nat.reduceBEq, Int.reduceToNat, Int.reduceBEq, Int.reduceBNe, hd, cb, x5, j6, j8, q9, h, h2, h3]; (repeat refine ⟨by omega, ?_⟩)
            (first | refine j9 rfl rfl rfl ?_ | refine q10 rfl rfl rfl ?_); simp (maxSteps := 2000000) (disch := omega) only [go_sem, ↓reduceIte, reduceCtorEq, Nat.reduceLT, Nat.reducePow, Nat.reduceLeDiff, Nat.reduceAdd, Nat.reduceMul, Nat.reduceSub, Nat.reduceEqDiff, Nat.reduceBEq, Int.reduceToNat, Int.reduceBEq, Int.reduceBNe, hd, cb, x5, j6, j8, q9, h, h2, h3]
            refine ⟨_, bit, ?_⟩
            (first | refine z8 [] _ _ ?_ | refine x8 [] _ _ _ ?_); simp (maxSteps := 2000000) (disch := omega) only [go_sem, ↓reduceIte, reduceCtorEq, Nat.reduceLT, Nat.reducePow, Nat.reduceLeDiff, Nat.reduceAdd, Nat.reduceMul, Nat.reduceSub, Nat.reduceEqDiff, Nat.reduceBEq, Int.reduceToNat, Int.reduceBEq, Int.reduceBNe, hd, cb, x5, j6, j8, q9, h, h2, h3]; (repeat refine ⟨by omega, ?_⟩)
            (first | (refine z1 (hK _ ?_); clear hK K; show AWP _ _ _ _ _) | (refine q5 (hK _ _ (j4 (by kernel_rfl)) ?_); clear hK K; show AWP _ _ _ _ _))
          · refine awp_cond rfl (fun _ => ?_) (fun ht => absurd ht (by decide))
            refine q6 ?_
            show AWP _ _ _ _ _
            (repeat refine j0 ?_); (first | refine z2 fun K hK => ?_ | refine x4 (by kernel_rfl) (by kernel_rfl) fun K hK => ?_)
            (first | refine z8 [] _ _ ?_ | refine x8 [] _ _ _ ?_); simp (maxSteps := 2000000) (disch := omega) only [go_sem, ↓reduceIte, reduceCtorEq, Nat.reduceLT, Nat.reducePow, Nat.reduceLeDiff, Nat.reduceAdd, Nat.reduceMul, Nat.reduceSub, Nat.reduceEqDiff, Nat.reduceBEq, Int.reduceToNat, Int.reduceBEq, Int.reduceBNe, hd, cb, x5, j6, j8, q9, h, h2, h3]; (repeat refine ⟨by omega, ?_⟩)
            (first | (refine z1 (hK _ ?_); clear hK K; show loopQ _ _ _ _ _ _) | (refine q5 (hK _ _ (j4 (by kernel_rfl)) ?_); clear hK K; show loopQ _ _ _ _ _ _))
            refine ⟨⟨⟨n, out, r⟩, by simp only []; omega, by simp only []; omega, ?_⟩, by simp only []; omega, ?_⟩
            · simpa [lessGo, hb] using he
            · refine Weak.list ?_ ?_; (all_goals simp (disch := omega) only [AllF, AllL, x10, j10, z10, exists_eq_left', Option.some.injEq, go_sem, ↓reduceIte, reduceCtorEq, Nat.reduceLT, Nat.reducePow, Nat.reduceLeDiff, Nat.reduceAdd, Nat.reduceMul, Nat.reduceSub, Nat.reduceEqDiff, Nat.reduceBEq, Int.reduceToNat, Int.reduceBEq, Int.reduceBNe, hd, cb, x5, j6, j8, q9, h, h2, h3]); (all_goals (repeat' (with_reducible apply And.intro))); (all_goals try (first | exact z6 rfl | (refine q11 ?_; omega) | (refine z6 ?_; simp; done)))
          · (repeat refine j0 ?_); refine awp_cond rfl (fun ht => absurd ht (by decide)) (fun _ => ?_); refine j5 ?_; show AWP _ _ _ _ _
            have mask := Mask_c (n : Int) 1 (by omega)
            obtain ⟨bt, hbt⟩ : ∃ bt, ones 1 <<< n = bt := ⟨_, rfl⟩
            rw [show fieldB (n : Int) 1 128 = true from by simp [fieldB]; omega, if_pos rfl, if_pos rfl, Int.toNat_natCast, show Int.toNat 1 = 1 from rfl, hbt] at mask
            (repeat refine j0 ?_); (first | refine z2 fun K hK => ?_ | refine x4 (by kernel_rfl) (by kernel_rfl) fun K hK => ?_)
            (first | refine z8 [] _ _ ?_ | refine x8 [] _ _ _ ?_); simp (maxSteps := 2000000) (disch := omega) only [go_sem, ↓reduceIte, reduceCtorEq, Nat.reduceLT, Nat.reducePow, Nat.reduceLeDiff, Nat.reduceAdd, Nat.reduceMul, Nat.reduceSub, Nat.reduceEqDiff, Nat.reduceBEq, Int.reduceToNat, Int.reduceBEq, Int.reduceBNe, hd, cb, x5, j6, j8, q9, h, h2, h3]; (repeat refine ⟨by omega, ?_⟩)
            (first | refine j9 rfl rfl rfl ?_ | refine q10 rfl rfl rfl ?_); simp (maxSteps := 2000000) (disch := omega) only [go_sem, ↓reduceIte, reduceCtorEq, Nat.reduceLT, Nat.reducePow, Nat.reduceLeDiff, Nat.reduceAdd, Nat.reduceMul, Nat.reduceSub, Nat.reduceEqDiff, Nat.reduceBEq, Int.reduceToNat, Int.reduceBEq, Int.reduceBNe, hd, cb, x5, j6, j8, q9, h, h2, h3]
            refine ⟨_, mask, ?_⟩
            (first | refine z8 [] _ _ ?_ | refine x8 [] _ _ _ ?_); simp (maxSteps := 2000000) (disch := omega) only [go_sem, ↓reduceIte, reduceCtorEq, Nat.reduceLT, Nat.reducePow, Nat.reduceLeDiff, Nat.reduceAdd, Nat.reduceMul, Nat.reduceSub, Nat.reduceEqDiff, Nat.reduceBEq, Int.reduceToNat, Int.reduceBEq, Int.reduceBNe, hd, cb, x5, j6, j8, q9, h, h2, h3]; (repeat refine ⟨by omega, ?_⟩)
            (first | (refine z1 (hK _ ?_); clear hK K; show AWP _ _ _ _ _) | (refine q5 (hK _ _ (j4 (by kernel_rfl)) ?_); clear hK K; show AWP _ _ _ _ _))
            (repeat refine j0 ?_); (first | refine z2 fun K hK => ?_ | refine x4 (by kernel_rfl) (by kernel_rfl) fun K hK => ?_)
            (first | refine z8 [] _ _ ?_ | refine x8 [] _ _ _ ?_); simp (maxSteps := 2000000) (disch := omega) only [go_sem, ↓reduceIte, reduceCtorEq, Nat.reduceLT, Nat.reducePow, Nat.reduceLeDiff, Nat.reduceAdd, Nat.reduceMul, Nat.reduceSub, Nat.reduceEqDiff, Nat.reduceBEq, Int.reduceToNat, Int.reduceBEq, Int.reduceBNe, hd, cb, x5, j6, j8, q9, h, h2, h3]; (repeat refine ⟨by omega, ?_⟩)
            (first | refine j9 rfl rfl rfl ?_ | refine q10 rfl rfl rfl ?_); simp (maxSteps := 2000000) (disch := omega) only [go_sem, ↓reduceIte, reduceCtorEq, Nat.reduceLT, Nat.reducePow, Nat.reduceLeDiff, Nat.reduceAdd, Nat.reduceMul, Nat.reduceSub, Nat.reduceEqDiff, Nat.reduceBEq, Int.reduceToNat, Int.reduceBEq, Int.reduceBNe, hd, cb, x5, j6, j8, q9, h, h2, h3]
            refine ⟨_, And_c b.v _, ?_⟩
            (first | refine z8 [] _ _ ?_ | refine x8 [] _ _ _ ?_); simp (maxSteps := 2000000) (disch := omega) only [go_sem, ↓reduceIte, reduceCtorEq, Nat.reduceLT, Nat.reducePow, Nat.reduceLeDiff, Nat.reduceAdd, Nat.reduceMul, Nat.reduceSub, Nat.reduceEqDiff, Nat.reduceBEq, Int.reduceToNat, Int.reduceBEq, Int.reduceBNe, hd, cb, x5, j6, j8, q9, h, h2, h3]; (repeat refine ⟨by omega, ?_⟩)
            (first | refine j9 rfl rfl rfl ?_ | refine q10 rfl rfl rfl ?_); simp (maxSteps := 2000000) (disch := omega) only [go_sem, ↓reduceIte, reduceCtorEq, Nat.reduceLT, Nat.reducePow, Nat.reduceLeDiff, Nat.reduceAdd, Nat.reduceMul, Nat.reduceSub, Nat.reduceEqDiff, Nat.reduceBEq, Int.reduceToNat, Int.reduceBEq, Int.reduceBNe, hd, cb, x5, j6, j8, q9, h, h2, h3]
            refine ⟨_, Or_c r.v _, ?_⟩
            (first | refine z8 [] _ _ ?_ | refine x8 [] _ _ _ ?_); simp (maxSteps := 2000000) (disch := omega) only [go_sem, ↓reduceIte, reduceCtorEq, Nat.reduceLT, Nat.reducePow, Nat.reduceLeDiff, Nat.reduceAdd, Nat.reduceMul, Nat.reduceSub, Nat.reduceEqDiff, Nat.reduceBEq, Int.reduceToNat, Int.reduceBEq, Int.reduceBNe, hd, cb, x5, j6, j8, q9, h, h2, h3]; (repeat refine ⟨by omega, ?_⟩)
            (first | refine j9 rfl rfl rfl ?_ | refine q10 rfl rfl rfl ?_); simp (maxSteps := 2000000) (disch := omega) only [go_sem, ↓reduceIte, reduceCtorEq, Nat.reduceLT, Nat.reducePow, Nat.reduceLeDiff, Nat.reduceAdd, Nat.reduceMul, Nat.reduceSub, Nat.reduceEqDiff, Nat.reduceBEq, Int.reduceToNat, Int.reduceBEq, Int.reduceBNe, hd, cb, x5, j6, j8, q9, h, h2, h3]
            refine ⟨_, Or_c r.c _, ?_⟩
            (first | refine z8 [] _ _ ?_ | refine x8 [] _ _ _ ?_); simp (maxSteps := 2000000) (disch := omega) only [go_sem, ↓reduceIte, reduceCtorEq, Nat.reduceLT, Nat.reducePow, Nat.reduceLeDiff, Nat.reduceAdd, Nat.reduceMul, Nat.reduceSub, Nat.reduceEqDiff, Nat.reduceBEq, Int.reduceToNat, Int.reduceBEq, Int.reduceBNe, hd, cb, x5, j6, j8, q9, h, h2, h3]; (repeat refine ⟨by omega, ?_⟩)
            (first | (refine z1 (hK _ ?_); clear hK K; show AWP _ _ _ _ _) | (refine q5 (hK _ _ (j4 (by kernel_rfl)) ?_); clear hK K; show AWP _ _ _ _ _))
            (repeat refine j0 ?_); (first | refine z2 fun K hK => ?_ | refine x4 (by kernel_rfl) (by kernel_rfl) fun K hK => ?_)
            (first | refine z8 [] _ _ ?_ | refine x8 [] _ _ _ ?_); simp (maxSteps := 2000000) (disch := omega) only [go_sem, ↓reduceIte, reduceCtorEq, Nat.reduceLT, Nat.reducePow, Nat.reduceLeDiff, Nat.reduceAdd, Nat.reduceMul, Nat.reduceSub, Nat.reduceEqDiff, Nat.reduceBEq, Int.reduceToNat, Int.reduceBEq, Int.reduceBNe, hd, cb, x5, j6, j8, q9, h, h2, h3]; (repeat refine ⟨by omega, ?_⟩)
            (first | refine j9 rfl rfl rfl ?_ | refine q10 rfl rfl rfl ?_); simp (maxSteps := 2000000) (disch := omega) only [go_sem, ↓reduceIte, reduceCtorEq, Nat.reduceLT, Nat.reducePow, Nat.reduceLeDiff, Nat.reduceAdd, Nat.reduceMul, Nat.reduceSub, Nat.reduceEqDiff, Nat.reduceBEq, Int.reduceToNat, Int.reduceBEq, Int.reduceBNe, hd, cb, x5, j6, j8, q9, h, h2, h3]
            refine ⟨_, Xor_c _ _, ?_⟩
            (first | refine z8 [] _ _ ?_ | refine x8 [] _ _ _ ?_); simp (maxSteps := 2000000) (disch := omega) only [go_sem, ↓reduceIte, reduceCtorEq, Nat.reduceLT, Nat.reducePow, Nat.reduceLeDiff, Nat.reduceAdd, Nat.reduceMul, Nat.reduceSub, Nat.reduceEqDiff, Nat.reduceBEq, Int.reduceToNat, Int.reduceBEq, Int.reduceBNe, hd, cb, x5, j6, j8, q9, h, h2, h3]; (repeat refine ⟨by omega, ?_⟩)
            (first | (refine z1 (hK _ ?_); clear hK K; show AWP _ _ _ _ _) | (refine q5 (hK _ _ (j4 (by kernel_rfl)) ?_); clear hK K; show AWP _ _ _ _ _))
            (repeat refine j0 ?_); (first | refine z2 fun K hK => ?_ | refine x4 (by kernel_rfl) (by kernel_rfl) fun K hK => ?_); (first | refine z8 [] _ _ ?_ | refine x8 [] _ _ _ ?_); simp (maxSteps := 2000000) (disch := omega) only [go_sem, ↓reduceIte, reduceCtorEq, Nat.reduceLT, Nat.reducePow, Nat.reduceLeDiff, Nat.reduceAdd, Nat.reduceMul, Nat.reduceSub, Nat.reduceEqDiff, Nat.reduceBEq, Int.reduceToNat, Int.reduceBEq, Int.reduceBNe, hd, cb, x5, j6, j8, q9, h, h2, h3]; (repeat refine ⟨by omega, ?_⟩); (first | (refine z1 (hK _ ?_); clear hK K; show AWP _ _ _ _ _) | (refine q5 (hK _ _ (j4 (by kernel_rfl)) ?_); clear hK K; show AWP _ _ _ _ _))
            (repeat refine j0 ?_); (first | refine z2 fun K hK => ?_ | refine x4 (by kernel_rfl) (by kernel_rfl) fun K hK => ?_)
            (first | refine z8 [] _ _ ?_ | refine x8 [] _ _ _ ?_); simp (maxSteps := 2000000) (disch := omega) only [go_sem, ↓reduceIte, reduceCtorEq, Nat.reduceLT, Nat.reducePow, Nat.reduceLeDiff, Nat.reduceAdd, Nat.reduceMul, Nat.reduceSub, Nat.reduceEqDiff, Nat.reduceBEq, Int.reduceToNat, Int.reduceBEq, Int.reduceBNe, hd, cb, x5, j6, j8, q9, h, h2, h3]; (repeat refine ⟨by omega, ?_⟩)
            (first | (refine z1 (hK _ ?_); clear hK K; show loopQ _ _ _ _ _ _) | (refine q5 (hK _ _ (j4 (by kernel_rfl)) ?_); clear hK K; show loopQ _ _ _ _ _ _))
            refine ⟨⟨⟨n, out ++ [⟨(r.v ||| b.v &&& bt) ^^^ bt, r.c ||| bt⟩], ⟨r.v ||| b.v &&& bt, r.c ||| bt⟩⟩, by simp only []; omega, by simp; omega, ?_⟩, by simp only []; omega, ?_⟩
            · simpa [lessGo, hb, hbt] using he
            · refine Weak.list ?_ ?_; (all_goals simp (disch := omega) only [AllF, AllL, x10, j10, z10, exists_eq_left', Option.some.injEq, go_sem, ↓reduceIte, reduceCtorEq, Nat.reduceLT, Nat.reducePow, Nat.reduceLeDiff, Nat.reduceAdd, Nat.reduceMul, Nat.reduceSub, Nat.reduceEqDiff, Nat.reduceBEq, Int.reduceToNat, Int.reduceBEq, Int.reduceBNe, hd, cb, x5, j6, j8, q9, h, h2, h3]); (all_goals (repeat' (with_reducible apply And.intro))); (all_goals try (first | exact z6 rfl | (refine q11 ?_; omega) | (refine z6 ?_; simp; done)))
              · exact le_grgr (by simp) (by simp) (fun i hlt => catF_snoc out ⟨(r.v ||| b.v &&& bt) ^^^ bt, r.c ||| bt⟩ i hlt)
              · exact ⟨rfl, rfl, by simp, by simp⟩
theorem Less_cube_c (a b : Cube) : ACalls Try.prog 96 [.agg (cb a), .agg (cb b)] (· = [.d (.sl 4 (lessL a b).length (rowC (lessL a b)))]) := Less_cube_c' a b _ rfl
end Go.Proofs.Ytbiildleaelodaa
set_option linter.unusedSimpArgs false
set_option linter.unusedVariables false
namespace Go.Proofs.Ytbiildleaelodaa
open Go.Proofs.Ytbiildleaelodaa.AL
end Go.Proofs.Ytbiildleaelodaa
set_option linter.unusedSimpArgs false
set_option linter.unusedVariables false
namespace Go.Proofs.Ytbiildleaelodaa
open Go.Proofs.Ytbiildleaelodaa.AL
theorem rowC_at (L : List Cube) (i : Nat) : rowC L i = cb (L.getD i ⟨0, 0⟩) := rfl
def idxF {α : Type} (p : α → Bool) : List α → Nat → Int
  | [], _ => -1
  | x :: r, k => if p x then (k : Int) else idxF p r (k + 1)
theorem idxF_any {α : Type} (p : α → Bool) : ∀ (l : List α) (k : Nat), decide (idxF p l k ≥ 0) = l.any p
  | [], k => rfl
  | x :: r, k => by
    unfold idxF
    cases h : p x
    · simp only [Bool.false_eq_true, if_false, List.any_cons, h, Bool.false_or]; exact idxF_any p r (k + 1)
    · simp only [if_true, List.any_cons, h, Bool.true_or]; exact decide_eq_true (by omega)
def indexI (l : List Cube) (g : FuncId) (caps : List PV) (p : Cube → Bool) (R : Int) (s : {i : Nat // i ≤ l.length ∧ idxF p (l.drop i) i = R}) : ASt :=
  ⟨[(8, .p (.d (.v (.int .i64 (s.val : Int))))), (7, .p (.d (.v (.int .i64 (l.length : Int))))), (1, .p (.fn (.func g) [] caps)), (0, .p (.d (.sl 4 l.length (rowC l))))], []⟩
theorem IndexFunc_c (g : FuncId) (caps : List PV) (p : Cube → Bool) (l : List Cube) (hl : l.length ≤ 140737488355328) (hp : ∀ k ∈ l, ACalls Try.prog g (.agg (cb k) :: caps) (· = [.d (.v (.bool (p k)))])) :
    ACalls Try.prog 142 [.d (.sl 4 l.length (rowC l)), .fn (.func g) [] caps] (· = [.d (.v (.int .i64 (idxF p l 0)))]) := by
  obtain ⟨R, hR⟩ : ∃ R, idxF p l 0 = R := ⟨_, rfl⟩
  rw [hR]
  refine z11 Try.func142 rfl (by decide +kernel) (by rw [Try.ntmps142]; simp) ?_; rw [Try.ntmps142]; simp only [frOf]
  (repeat (first | refine j0 ?_ | refine q7 rfl ?_ | refine z7 rfl ?_ | refine x6 ?_ | (refine z2 fun K hK => ?_) | (refine x4 (by kernel_rfl) (by kernel_rfl) fun K hK => ?_) | ((first | refine j5 ?_ | refine q6 ?_ | ((first | refine z1 (hK _ ?_) | refine q5 (hK _ _ (j4 (by kernel_rfl)) ?_)); clear hK K)); (first | show AWP _ _ _ _ _ | ((try simp only [q8]); first | show loopQ _ _ _ _ _ _ | show cutQ _ _ _ _ | show AWP _ _ _ _ _))) | ((first | refine x7 [] rfl ?_ | refine j7 [] rfl ?_); simp (maxSteps := 2000000) (disch := omega) only [go_sem, seval, hd, cb, x5, j6]; (repeat (first | refine ⟨by omega, ?_⟩ | refine ⟨True.intro, ?_⟩)))))
  refine awp_loop (indexI l g caps p R) (fun s => l.length - s.val) ⟨0, by omega, by rw [List.drop_zero]; exact hR⟩ ?_ (fun s => ?_)
  · unfold indexI
    refine Weak.list ?_ ?_; (all_goals simp (disch := omega) only [AllF, AllL, x10, j10, z10, exists_eq_left', Option.some.injEq, go_sem, seval, hd, cb, x5, j6]); (all_goals (repeat' (with_reducible apply And.intro))); (all_goals try (first | exact z6 rfl | (refine q11 ?_; omega) | (refine z6 ?_; simp; done)))
  obtain ⟨i, hi, he⟩ := s
  unfold indexI
  by_cases hn : i < l.length
  · rw [drop_getD l i ⟨0, 0⟩ hn] at he
    have r1 := rowC_at l i
    have hk := hp _ (getD_in hn ⟨0, 0⟩)
    generalize l.getD i ⟨0, 0⟩ = K at he r1 hk
    unfold idxF at he
    cases hb : p K
    all_goals
      rw [hb] at he hk
      simp only [Bool.false_eq_true, if_false, if_true] at he
      (repeat (first | refine j0 ?_ | refine q7 rfl ?_ | refine z7 rfl ?_ | refine x6 ?_ | (refine z2 fun K hK => ?_) | (refine x4 (by kernel_rfl) (by kernel_rfl) fun K hK => ?_) | ((first | refine j5 ?_ | refine q6 ?_ | ((first | refine z1 (hK _ ?_) | refine q5 (hK _ _ (j4 (by kernel_rfl)) ?_)); clear hK K)); (first | show AWP _ _ _ _ _ | ((try simp only [q8]); first | show loopQ _ _ _ _ _ _ | show cutQ _ _ _ _ | show AWP _ _ _ _ _))) | ((first | refine j9 rfl rfl rfl ?_ | refine q10 rfl rfl rfl ?_); simp (maxSteps := 2000000) (disch := omega) only [go_sem, seval, hd, cb, x5, j6, r1]; (first | refine ⟨_, hk, ?_⟩)) | ((first | refine x7 [] rfl ?_ | refine j7 [] rfl ?_); simp (maxSteps := 2000000) (disch := omega) only [go_sem, seval, hd, cb, x5, j6, r1]; (repeat (first | refine ⟨by omega, ?_⟩ | refine ⟨True.intro, ?_⟩)))))
    · refine ⟨⟨i + 1, by omega, he⟩, by simp only []; omega, ?_⟩
      refine Weak.list ?_ ?_; (all_goals simp (disch := omega) only [AllF, AllL, x10, j10, z10, exists_eq_left', Option.some.injEq, go_sem, seval, hd, cb, x5, j6, r1]); (all_goals (repeat' (with_reducible apply And.intro))); (all_goals try (first | exact z6 rfl | (refine q11 ?_; omega) | (refine z6 ?_; simp; done)))
    · refine x9 ⟨_, ?_, rfl⟩; rw [Try.results142]; simp (disch := omega) only [ResVars, ResVar, ptrLoc, go_sem, seval, hd, cb, x5, j6, r1]
      rw [he]
  · have : i = l.length := by omega
    subst this
    rw [List.drop_length] at he
    unfold idxF at he
    (repeat (first | refine j0 ?_ | refine q7 rfl ?_ | refine z7 rfl ?_ | refine x6 ?_ | (refine z2 fun K hK => ?_) | (refine x4 (by kernel_rfl) (by kernel_rfl) fun K hK => ?_) | ((first | refine j5 ?_ | refine q6 ?_ | ((first | refine z1 (hK _ ?_) | refine q5 (hK _ _ (j4 (by kernel_rfl)) ?_)); clear hK K)); (first | show AWP _ _ _ _ _ | ((try simp only [q8]); first | show loopQ _ _ _ _ _ _ | show cutQ _ _ _ _ | show AWP _ _ _ _ _))) | ((first | refine x7 [] rfl ?_ | refine j7 [] rfl ?_); simp (maxSteps := 2000000) (disch := omega) only [go_sem, seval, hd, cb, x5, j6]; (repeat (first | refine ⟨by omega, ?_⟩ | refine ⟨True.intro, ?_⟩)))))
    refine x9 ⟨_, ?_, rfl⟩; rw [Try.results142]; simp (disch := omega) only [ResVars, ResVar, ptrLoc, go_sem, seval, hd, cb, x5, j6]
    rw [he]
theorem ContainsFunc_c (g : FuncId) (caps : List PV) (p : Cube → Bool) (l : List Cube) (hl : l.length ≤ 140737488355328) (hp : ∀ k ∈ l, ACalls Try.prog g (.agg (cb k) :: caps) (· = [.d (.v (.bool (p k)))])) :
    ACalls Try.prog 135 [.d (.sl 4 l.length (rowC l)), .fn (.func g) [] caps] (· = [.d (.v (.bool (l.any p)))]) := by
  have ix := IndexFunc_c g caps p l hl hp
  have ia := idxF_any p l 0
  generalize idxF p l 0 = R at ix ia
  refine z11 Try.func135 rfl (by decide +kernel) (by rw [Try.ntmps135]; simp) ?_; rw [Try.ntmps135]; simp only [frOf]
  (repeat (first | refine j0 ?_ | refine q7 rfl ?_ | refine z7 rfl ?_ | refine x6 ?_ | (refine z2 fun K hK => ?_) | (refine x4 (by kernel_rfl) (by kernel_rfl) fun K hK => ?_) | ((first | refine j5 ?_ | refine q6 ?_ | ((first | refine z1 (hK _ ?_) | refine q5 (hK _ _ (j4 (by kernel_rfl)) ?_)); clear hK K)); (first | show AWP _ _ _ _ _ | ((try simp only [q8]); first | show loopQ _ _ _ _ _ _ | show cutQ _ _ _ _ | show AWP _ _ _ _ _))) | ((first | refine j9 rfl rfl rfl ?_ | refine q10 rfl rfl rfl ?_); simp (maxSteps := 2000000) (disch := omega) only [go_sem, seval, hd, cb, x5, j6]; (first | refine ⟨_, ix, ?_⟩)) | ((first | refine x7 [] rfl ?_ | refine j7 [] rfl ?_); simp (maxSteps := 2000000) (disch := omega) only [go_sem, seval, hd, cb, x5, j6]; (repeat (first | refine ⟨by omega, ?_⟩ | refine ⟨True.intro, ?_⟩)))))
  refine x9 ⟨_, ?_, rfl⟩; rw [Try.results135]; simp (disch := omega) only [ResVars, ResVar, ptrLoc, go_sem, seval, hd, cb, x5, j6]
  rw [ia]
theorem notSound_c (k : Cube) : ACalls Try.prog 136 [.agg (cb k)] (· = [.d (.v (.bool (!k.sound)))]) := by
  refine z11 Try.func136 rfl (by decide +kernel) (by rw [Try.ntmps136]; simp) ?_; rw [Try.ntmps136]; simp only [frOf]
  (repeat (first | refine j0 ?_ | refine q7 rfl ?_ | refine z7 rfl ?_ | refine x6 ?_ | (refine z2 fun K hK => ?_) | (refine x4 (by kernel_rfl) (by kernel_rfl) fun K hK => ?_) | ((first | refine j5 ?_ | refine q6 ?_ | ((first | refine z1 (hK _ ?_) | refine q5 (hK _ _ (j4 (by kernel_rfl)) ?_)); clear hK K)); (first | show AWP _ _ _ _ _ | ((try simp only [q8]); first | show loopQ _ _ _ _ _ _ | show cutQ _ _ _ _ | show AWP _ _ _ _ _))) | ((first | refine j9 rfl rfl rfl ?_ | refine q10 rfl rfl rfl ?_); simp (maxSteps := 2000000) (disch := omega) only [go_sem, seval, hd, cb, x5, j6]; (first | refine ⟨_, Sound_c k, ?_⟩)) | ((first | refine x7 [] rfl ?_ | refine j7 [] rfl ?_); simp (maxSteps := 2000000) (disch := omega) only [go_sem, seval, hd, cb, x5, j6]; (repeat (first | refine ⟨by omega, ?_⟩ | refine ⟨True.intro, ?_⟩)))))
  refine x9 ⟨_, ?_, rfl⟩; rw [Try.results136]; simp (disch := omega) only [ResVars, ResVar, ptrLoc, go_sem, seval, hd, cb, x5, j6]
def soundP (l : List Cube) : Bool := decide (l.length ≤ 200) && l.all Cube.sound
theorem any_not {α : Type} (p : α → Bool) (l : List α) : (l.any fun x => !p x) = !l.all p := by
  induction l with
  | nil => rfl
  | cons x l ih => simp only [List.any_cons, List.all_cons, ih, Bool.not_and]
theorem SoundP_c (l : List Cube) (hl : l.length ≤ 140737488355328) : ACalls Try.prog 122 [.d (.sl 4 l.length (rowC l))] (· = [.d (.v (.bool (soundP l)))]) := by
  have cf := ContainsFunc_c 136 [] (fun k => !k.sound) l hl (fun k _ => notSound_c k)
  rw [any_not] at cf
  unfold soundP
  by_cases h : l.length ≤ 200
  · rw [decide_eq_true h, Bool.true_and]
    refine z11 Try.func122 rfl (by decide +kernel) (by rw [Try.ntmps122]; simp) ?_; rw [Try.ntmps122]; simp only [frOf]
    (repeat (first | refine j0 ?_ | refine q7 rfl ?_ | refine z7 rfl ?_ | refine x6 ?_ | (refine z2 fun K hK => ?_) | (refine x4 (by kernel_rfl) (by kernel_rfl) fun K hK => ?_) | ((first | refine j5 ?_ | refine q6 ?_ | ((first | refine z1 (hK _ ?_) | refine q5 (hK _ _ (j4 (by kernel_rfl)) ?_)); clear hK K)); (first | show AWP _ _ _ _ _ | ((try simp only [q8]); first | show loopQ _ _ _ _ _ _ | show cutQ _ _ _ _ | show AWP _ _ _ _ _))) | ((first | refine j9 rfl rfl rfl ?_ | refine q10 rfl rfl rfl ?_); simp (maxSteps := 2000000) (disch := omega) only [go_sem, seval, hd, cb, x5, j6]; (first | refine ⟨_, cf, ?_⟩)) | ((first | refine x7 [] rfl ?_ | refine j7 [] rfl ?_); simp (maxSteps := 2000000) (disch := omega) only [go_sem, seval, hd, cb, x5, j6]; (repeat (first | refine ⟨by omega, ?_⟩ | refine ⟨True.intro, ?_⟩)))))
    refine x9 ⟨_, ?_, rfl⟩; rw [Try.results122]; simp (disch := omega) only [ResVars, ResVar, ptrLoc, go_sem, seval, hd, cb, x5, j6]
    rw [Bool.not_not]
  · rw [decide_eq_false h, Bool.false_and]
    refine z11 Try.func122 rfl (by decide +kernel) (by rw [Try.ntmps122]; simp) ?_; rw [Try.ntmps122]; simp only [frOf]
    (repeat (first | refine j0 ?_ | refine q7 rfl ?_ | refine z7 rfl ?_ | refine x6 ?_ | (refine z2 fun K hK => ?_) | (refine x4 (by kernel_rfl) (by kernel_rfl) fun K hK => ?_) | ((first | refine j5 ?_ | refine q6 ?_ | ((first | refine z1 (hK _ ?_) | refine q5 (hK _ _ (j4 (by kernel_rfl)) ?_)); clear hK K)); (first | show AWP _ _ _ _ _ | ((try simp only [q8]); first | show loopQ _ _ _ _ _ _ | show cutQ _ _ _ _ | show AWP _ _ _ _ _))) | ((first | refine j9 rfl rfl rfl ?_ | refine q10 rfl rfl rfl ?_); simp (maxSteps := 2000000) (disch := omega) only [go_sem, seval, hd, cb, x5, j6]; (first | refine ⟨_, cf, ?_⟩)) | ((first | refine x7 [] rfl ?_ | refine j7 [] rfl ?_); simp (maxSteps := 2000000) (disch := omega) only [go_sem, seval, hd, cb, x5, j6]; (repeat (first | refine ⟨by omega, ?_⟩ | refine ⟨True.intro, ?_⟩)))))
    refine x9 ⟨_, ?_, rfl⟩; rw [Try.results122]; simp (disch := omega) only [ResVars, ResVar, ptrLoc, go_sem, seval, hd, cb, x5, j6]
def hasP (l : List Cube) (h : BitVec 128) : Bool := l.any (hasC · h)
theorem Clip_c (n : Nat) (f : Nat → List Dat) (hn : n ≤ 140737488355328) : ACalls Try.prog 98 [.d (.sl 4 n f)] (· = [.d (.sl 4 n f)]) := by
  refine z11 Try.func98 rfl (by decide +kernel) (by rw [Try.ntmps98]; simp) ?_; rw [Try.ntmps98]; simp only [frOf]
  (repeat (first | refine j0 ?_ | refine q7 rfl ?_ | refine z7 rfl ?_ | refine x6 ?_ | (refine z2 fun K hK => ?_) | (refine x4 (by kernel_rfl) (by kernel_rfl) fun K hK => ?_) | ((first | refine j5 ?_ | refine q6 ?_ | ((first | refine z1 (hK _ ?_) | refine q5 (hK _ _ (j4 (by kernel_rfl)) ?_)); clear hK K)); (first | show AWP _ _ _ _ _ | ((try simp only [q8]); first | show loopQ _ _ _ _ _ _ | show cutQ _ _ _ _ | show AWP _ _ _ _ _))) | ((first | refine x7 [] rfl ?_ | refine j7 [] rfl ?_); simp (maxSteps := 2000000) (disch := omega) only [go_sem, seval, hd, cb, x5, j6]; (repeat (first | refine ⟨by omega, ?_⟩ | refine ⟨True.intro, ?_⟩)))))
  refine x9 ⟨_, ?_, rfl⟩; rw [Try.results98]; simp (disch := omega) only [ResVars, ResVar, ptrLoc, go_sem, seval, hd, cb, x5, j6]
  rfl
def spareBy (l : List Cube) (n i : Nat) : Bool := i != n && (withinC (l.getD n ⟨0, 0⟩) (l.getD i ⟨0, 0⟩) && (l.getD n ⟨0, 0⟩ != l.getD i ⟨0, 0⟩ || decide (i < n)))
def spareP (l : List Cube) (n : Nat) : Bool := (List.range l.length).any (spareBy l n) || !(l.getD n ⟨0, 0⟩).sound
theorem eqI_cb (a b : Cube) : eqI [hi a.v, lo a.v, hi a.c, lo a.c] [hi b.v, lo b.v, hi b.c, lo b.c] = (a == b) := by
  have h1 := j8 a.v b.v
  have h2 := j8 a.c b.c
  simp only [eqI, Bool.and_true] at h1 h2 ⊢
  rw [← Bool.and_assoc, h1, h2]
  cases a; cases b
  rw [Bool.eq_iff_iff]
  simp
def spareI (l : List Cube) (n : Nat) (s : {i : Nat // i ≤ l.length ∧ ∀ j, j < i → spareBy l n j = false}) : ASt :=
  ⟨[(9, .p (.d (.v (.int .i64 (s.val : Int))))), (8, .p (.d (.v (.int .i64 (l.length : Int))))), (7, .p (.d (.sl 4 l.length (rowC l)))), (1, .p (.d (.v (.int .i64 (n : Int))))), (0, .p (.d (.sl 4 l.length (rowC l))))], []⟩
set_option maxRecDepth 100000 in
set_option maxHeartbeats 1000000 in
theorem spare_c (l : List Cube) (n : Nat) (hl : l.length ≤ 140737488355328) (hn : n < l.length) : ACalls Try.prog 140 [.d (.sl 4 l.length (rowC l)), .d (.v (.int .i64 (n : Int)))] (· = [.d (.v (.bool (spareP l n)))]) := by
  have rn := rowC_at l n
  obtain ⟨N, hN⟩ : ∃ N, l.getD n ⟨0, 0⟩ = N := ⟨_, rfl⟩
  rw [hN] at rn
  refine z11 Try.func140 rfl (by decide +kernel) (by rw [Try.ntmps140]; simp) ?_; rw [Try.ntmps140]; simp only [frOf]
  (repeat (first | refine j0 ?_ | refine q7 rfl ?_ | refine z7 rfl ?_ | refine x6 ?_ | (refine z2 fun K hK => ?_) | (refine x4 (by kernel_rfl) (by kernel_rfl) fun K hK => ?_) | ((first | refine j5 ?_ | refine q6 ?_ | ((first | refine z1 (hK _ ?_) | refine q5 (hK _ _ (j4 (by kernel_rfl)) ?_)); clear hK K)); (first | show AWP _ _ _ _ _ | ((try simp only [q8]); first | show loopQ _ _ _ _ _ _ | show cutQ _ _ _ _ | show AWP _ _ _ _ _))) | ((first | refine x7 [] rfl ?_ | refine j7 [] rfl ?_); simp (maxSteps := 2000000) (disch := omega) only [go_sem, seval, hd, cb, x5, j6]; (repeat (first | refine ⟨by omega, ?_⟩ | refine ⟨True.intro, ?_⟩)))))
  refine awp_loop (spareI l n) (fun s => l.length - s.val) ⟨0, by omega, fun j hj => by omega⟩ ?_ (fun s => ?_)
  · unfold spareI
    refine Weak.list ?_ ?_; (all_goals simp (disch := omega) only [AllF, AllL, x10, j10, z10, exists_eq_left', Option.some.injEq, go_sem, seval, hd, cb, x5, j6]); (all_goals (repeat' (with_reducible apply And.intro))); (all_goals try (first | exact z6 rfl | (refine q11 ?_; omega) | (refine z6 ?_; simp; done)))
  obtain ⟨i, hi, he⟩ := s
  unfold spareI
  by_cases hlt : i < l.length
  · have ri := rowC_at l i
    have sp : spareBy l n i = (i != n && (withinC N (l.getD i ⟨0, 0⟩) && (N != l.getD i ⟨0, 0⟩ || decide (i < n)))) := by unfold spareBy; rw [hN]
    have step : spareBy l n i = false → ∀ j, j < i + 1 → spareBy l n j = false := fun h j hj => by
      by_cases e : j = i
      · subst e; exact h
      · exact he j (by omega)
    have stop : spareBy l n i = true → spareP l n = true := fun h => by
      unfold spareP
      rw [List.any_eq_true.2 ⟨i, List.mem_range.2 hlt, h⟩]; rfl
    generalize l.getD i ⟨0, 0⟩ = K at ri sp
    have wc := Within_c N K
    by_cases hin : i = n
    · have h0 : spareBy l n i = false := by rw [sp, hin]; simp
      have q : ((i : Int) != (n : Int)) = false := by simp [hin]
      (repeat (first | refine j0 ?_ | refine q7 rfl ?_ | refine z7 rfl ?_ | refine x6 ?_ | (refine z2 fun K hK => ?_) | (refine x4 (by kernel_rfl) (by kernel_rfl) fun K hK => ?_) | ((first | refine j5 ?_ | refine q6 ?_ | ((first | refine z1 (hK _ ?_) | refine q5 (hK _ _ (j4 (by kernel_rfl)) ?_)); clear hK K)); (first | show AWP _ _ _ _ _ | ((try simp only [q8]); first | show loopQ _ _ _ _ _ _ | show cutQ _ _ _ _ | show AWP _ _ _ _ _))) | ((first | refine j9 rfl rfl rfl ?_ | refine q10 rfl rfl rfl ?_); simp (maxSteps := 2000000) (disch := omega) only [go_sem, seval, hd, cb, x5, j6, rn, ri, q]; (first | refine ⟨_, wc, ?_⟩)) | ((first | refine x7 [] rfl ?_ | refine j7 [] rfl ?_); simp (maxSteps := 2000000) (disch := omega) only [go_sem, seval, hd, cb, x5, j6, rn, ri, q]; (repeat (first | refine ⟨by omega, ?_⟩ | refine ⟨True.intro, ?_⟩)))))
      refine ⟨⟨i + 1, by omega, step h0⟩, by simp only []; omega, ?_⟩
      refine Weak.list ?_ ?_; (all_goals simp (disch := omega) only [AllF, AllL, x10, j10, z10, exists_eq_left', Option.some.injEq, go_sem, seval, hd, cb, x5, j6, rn, ri, q]); (all_goals (repeat' (with_reducible apply And.intro))); (all_goals try (first | exact z6 rfl | (refine q11 ?_; omega) | (refine z6 ?_; simp; done)))
    · have q : ((i : Int) != (n : Int)) = true := by simp; omega
      have q2 : (i != n) = true := by simpa using hin
      rw [q2, Bool.true_and] at sp
      cases hw : withinC N K
      · rw [hw] at wc sp
        (repeat (first | refine j0 ?_ | refine q7 rfl ?_ | refine z7 rfl ?_ | refine x6 ?_ | (refine z2 fun K hK => ?_) | (refine x4 (by kernel_rfl) (by kernel_rfl) fun K hK => ?_) | ((first | refine j5 ?_ | refine q6 ?_ | ((first | refine z1 (hK _ ?_) | refine q5 (hK _ _ (j4 (by kernel_rfl)) ?_)); clear hK K)); (first | show AWP _ _ _ _ _ | ((try simp only [q8]); first | show loopQ _ _ _ _ _ _ | show cutQ _ _ _ _ | show AWP _ _ _ _ _))) | ((first | refine j9 rfl rfl rfl ?_ | refine q10 rfl rfl rfl ?_); simp (maxSteps := 2000000) (disch := omega) only [go_sem, seval, hd, cb, x5, j6, rn, ri, q]; (first | refine ⟨_, wc, ?_⟩)) | ((first | refine x7 [] rfl ?_ | refine j7 [] rfl ?_); simp (maxSteps := 2000000) (disch := omega) only [go_sem, seval, hd, cb, x5, j6, rn, ri, q]; (repeat (first | refine ⟨by omega, ?_⟩ | refine ⟨True.intro, ?_⟩)))))
        refine ⟨⟨i + 1, by omega, step sp⟩, by simp only []; omega, ?_⟩
        refine Weak.list ?_ ?_; (all_goals simp (disch := omega) only [AllF, AllL, x10, j10, z10, exists_eq_left', Option.some.injEq, go_sem, seval, hd, cb, x5, j6, rn, ri, q]); (all_goals (repeat' (with_reducible apply And.intro))); (all_goals try (first | exact z6 rfl | (refine q11 ?_; omega) | (refine z6 ?_; simp; done)))
      · rw [hw, Bool.true_and] at sp
        rw [hw] at wc
        have eq := eqI_cb N K
        have nb : (N != K) = !(N == K) := rfl
        rw [nb] at sp
        cases hq : (N == K)
        · rw [hq] at eq sp
          (repeat (first | refine j0 ?_ | refine q7 rfl ?_ | refine z7 rfl ?_ | refine x6 ?_ | (refine z2 fun K hK => ?_) | (refine x4 (by kernel_rfl) (by kernel_rfl) fun K hK => ?_) | ((first | refine j5 ?_ | refine q6 ?_ | ((first | refine z1 (hK _ ?_) | refine q5 (hK _ _ (j4 (by kernel_rfl)) ?_)); clear hK K)); (first | show AWP _ _ _ _ _ | ((try simp only [q8]); first | show loopQ _ _ _ _ _ _ | show cutQ _ _ _ _ | show AWP _ _ _ _ _))) | ((first | refine j9 rfl rfl rfl ?_ | refine q10 rfl rfl rfl ?_); simp (maxSteps := 2000000) (disch := omega) only [go_sem, seval, hd, cb, x5, j6, rn, ri, q, eq]; (first | refine ⟨_, wc, ?_⟩)) | ((first | refine x7 [] rfl ?_ | refine j7 [] rfl ?_); simp (maxSteps := 2000000) (disch := omega) only [go_sem, seval, hd, cb, x5, j6, rn, ri, q, eq]; (repeat (first | refine ⟨by omega, ?_⟩ | refine ⟨True.intro, ?_⟩)))))
          rw [stop sp]
          refine x9 ⟨_, ?_, rfl⟩; rw [Try.results140]; simp (disch := omega) only [ResVars, ResVar, ptrLoc, go_sem, seval, hd, cb, x5, j6, rn, ri, q, eq]
        · rw [hq] at eq sp
          by_cases hl2 : i < n
          · rw [decide_eq_true hl2] at sp
            (repeat (first | refine j0 ?_ | refine q7 rfl ?_ | refine z7 rfl ?_ | refine x6 ?_ | (refine z2 fun K hK => ?_) | (refine x4 (by kernel_rfl) (by kernel_rfl) fun K hK => ?_) | ((first | refine j5 ?_ | refine q6 ?_ | ((first | refine z1 (hK _ ?_) | refine q5 (hK _ _ (j4 (by kernel_rfl)) ?_)); clear hK K)); (first | show AWP _ _ _ _ _ | ((try simp only [q8]); first | show loopQ _ _ _ _ _ _ | show cutQ _ _ _ _ | show AWP _ _ _ _ _))) | ((first | refine j9 rfl rfl rfl ?_ | refine q10 rfl rfl rfl ?_); simp (maxSteps := 2000000) (disch := omega) only [go_sem, seval, hd, cb, x5, j6, rn, ri, q, eq]; (first | refine ⟨_, wc, ?_⟩)) | ((first | refine x7 [] rfl ?_ | refine j7 [] rfl ?_); simp (maxSteps := 2000000) (disch := omega) only [go_sem, seval, hd, cb, x5, j6, rn, ri, q, eq]; (repeat (first | refine ⟨by omega, ?_⟩ | refine ⟨True.intro, ?_⟩)))))
            rw [stop sp]
            refine x9 ⟨_, ?_, rfl⟩; rw [Try.results140]; simp (disch := omega) only [ResVars, ResVar, ptrLoc, go_sem, seval, hd, cb, x5, j6, rn, ri, q, eq]
          · rw [decide_eq_false hl2] at sp
            (repeat (first | refine j0 ?_ | refine q7 rfl ?_ | refine z7 rfl ?_ | refine x6 ?_ | (refine z2 fun K hK => ?_) | (refine x4 (by kernel_rfl) (by kernel_rfl) fun K hK => ?_) | ((first | refine j5 ?_ | refine q6 ?_ | ((first | refine z1 (hK _ ?_) | refine q5 (hK _ _ (j4 (by kernel_rfl)) ?_)); clear hK K)); (first | show AWP _ _ _ _ _ | ((try simp only [q8]); first | show loopQ _ _ _ _ _ _ | show cutQ _ _ _ _ | show AWP _ _ _ _ _))) | ((first | refine j9 rfl rfl rfl ?_ | refine q10 rfl rfl rfl ?_); simp (maxSteps := 2000000) (disch := omega) only [go_sem, seval, hd, cb, x5, j6, rn, ri, q, eq]; (first | refine ⟨_, wc, ?_⟩)) | ((first | refine x7 [] rfl ?_ | refine j7 [] rfl ?_); simp (maxSteps := 2000000) (disch := omega) only [go_sem, seval, hd, cb, x5, j6, rn, ri, q, eq]; (repeat (first | refine ⟨by omega, ?_⟩ | refine ⟨True.intro, ?_⟩)))))
            refine ⟨⟨i + 1, by omega, step sp⟩, by simp only []; omega, ?_⟩
            refine Weak.list ?_ ?_; (all_goals simp (disch := omega) only [AllF, AllL, x10, j10, z10, exists_eq_left', Option.some.injEq, go_sem, seval, hd, cb, x5, j6, rn, ri, q, eq]); (all_goals (repeat' (with_reducible apply And.intro))); (all_goals try (first | exact z6 rfl | (refine q11 ?_; omega) | (refine z6 ?_; simp; done)))
  · have : i = l.length := by omega
    subst this
    have h0 : (List.range l.length).any (spareBy l n) = false := by
      rw [List.any_eq_false]
      intro j hj
      rw [he j (List.mem_range.1 hj)]; simp
    have sd := Sound_c N
    (repeat (first | refine j0 ?_ | refine q7 rfl ?_ | refine z7 rfl ?_ | refine x6 ?_ | (refine z2 fun K hK => ?_) | (refine x4 (by kernel_rfl) (by kernel_rfl) fun K hK => ?_) | ((first | refine j5 ?_ | refine q6 ?_ | ((first | refine z1 (hK _ ?_) | refine q5 (hK _ _ (j4 (by kernel_rfl)) ?_)); clear hK K)); (first | show AWP _ _ _ _ _ | ((try simp only [q8]); first | show loopQ _ _ _ _ _ _ | show cutQ _ _ _ _ | show AWP _ _ _ _ _))) | ((first | refine j9 rfl rfl rfl ?_ | refine q10 rfl rfl rfl ?_); simp (maxSteps := 2000000) (disch := omega) only [go_sem, seval, hd, cb, x5, j6, rn]; (first | refine ⟨_, sd, ?_⟩)) | ((first | refine x7 [] rfl ?_ | refine j7 [] rfl ?_); simp (maxSteps := 2000000) (disch := omega) only [go_sem, seval, hd, cb, x5, j6, rn]; (repeat (first | refine ⟨by omega, ?_⟩ | refine ⟨True.intro, ?_⟩)))))
    refine x9 ⟨_, ?_, rfl⟩; rw [Try.results140]; simp (disch := omega) only [ResVars, ResVar, ptrLoc, go_sem, seval, hd, cb, x5, j6, rn]
    unfold spareP
    rw [h0, Bool.false_or, hN]
theorem Clone_c (l : List Cube) (hl : l.length ≤ 1099511627776) : ACalls Try.prog 95 [.d (.sl 4 l.length (rowC l))] (· = [.d (.sl 4 l.length (rowC l))]) := by
  by_cases h : l.length = 0
  · rw [h]
    refine acalls_empty fun a c => ?_
    cases a with
    | none =>
      refine z11 Try.func95 rfl (by decide +kernel) (by rw [Try.ntmps95]; simp) ?_; rw [Try.ntmps95]; simp only [frOf]
      (repeat (first | refine j0 ?_ | refine q7 rfl ?_ | refine z7 rfl ?_ | refine x6 ?_ | (refine z2 fun K hK => ?_) | (refine x4 (by kernel_rfl) (by kernel_rfl) fun K hK => ?_) | ((first | refine j5 ?_ | refine q6 ?_ | ((first | refine z1 (hK _ ?_) | refine q5 (hK _ _ (j4 (by kernel_rfl)) ?_)); clear hK K)); (first | show AWP _ _ _ _ _ | ((try simp only [q8]); first | show loopQ _ _ _ _ _ _ | show cutQ _ _ _ _ | show AWP _ _ _ _ _))) | ((first | refine x7 [5] rfl ?_ | refine j7 [5] rfl ?_); simp (maxSteps := 2000000) (disch := omega) only [go_sem, seval, hd, cb, x5, j6]; (repeat (first | refine ⟨by omega, ?_⟩ | refine ⟨True.intro, ?_⟩)))))
      refine awp_slot 2 _ (.p (.d (.sl 4 0 (rowC l)))) rfl le_emp ?_
      refine x9 ⟨_, ?_, rfl⟩; rw [Try.results95]; simp (disch := omega) only [ResVars, ResVar, ptrLoc, go_sem, seval, hd, cb, x5, j6]
    | some a =>
      refine z11 Try.func95 rfl (by decide +kernel) (by rw [Try.ntmps95]; simp) ?_; rw [Try.ntmps95]; simp only [frOf]
      (repeat ((fail_if_success (show AWP _ _ (.region 3 _ _) _ _)); first | refine j0 ?_ | refine q7 rfl ?_ | refine z7 rfl ?_ | refine x6 ?_ | (refine z2 fun K hK => ?_) | (refine x4 (by kernel_rfl) (by kernel_rfl) fun K hK => ?_) | ((first | refine j5 ?_ | refine q6 ?_ | ((first | refine z1 (hK _ ?_) | refine q5 (hK _ _ (j4 (by kernel_rfl)) ?_)); clear hK K)); (first | show AWP _ _ _ _ _ | ((try simp only [q8]); first | show loopQ _ _ _ _ _ _ | show cutQ _ _ _ _ | show AWP _ _ _ _ _))) | ((first | refine x7 [5] rfl ?_ | refine j7 [5] rfl ?_); simp (maxSteps := 2000000) (disch := omega) only [go_sem, seval, hd, cb, x5, j6]; (repeat (first | refine ⟨by omega, ?_⟩ | refine ⟨True.intro, ?_⟩)))))
      refine awp_slot 0 _ (.p (.d (.sl 4 0 (rowC l)))) rfl le_emp ?_
      (repeat (first | refine j0 ?_ | refine q7 rfl ?_ | refine z7 rfl ?_ | refine x6 ?_ | (refine z2 fun K hK => ?_) | (refine x4 (by kernel_rfl) (by kernel_rfl) fun K hK => ?_) | ((first | refine j5 ?_ | refine q6 ?_ | ((first | refine z1 (hK _ ?_) | refine q5 (hK _ _ (j4 (by kernel_rfl)) ?_)); clear hK K)); (first | show AWP _ _ _ _ _ | ((try simp only [q8]); first | show loopQ _ _ _ _ _ _ | show cutQ _ _ _ _ | show AWP _ _ _ _ _))) | ((first | refine x7 [5] rfl ?_ | refine j7 [5] rfl ?_); simp (maxSteps := 2000000) (disch := omega) only [go_sem, seval, hd, cb, x5, j6]; (repeat (first | refine ⟨by omega, ?_⟩ | refine ⟨True.intro, ?_⟩)))))
      refine awp_slot 2 _ (.p (.d (.sl 4 0 (rowC l)))) rfl (le_gr rfl (fun i hi => by omega)) ?_
      refine x9 ⟨_, ?_, rfl⟩; rw [Try.results95]; simp (disch := omega) only [ResVars, ResVar, ptrLoc, go_sem, seval, hd, cb, x5, j6]
  · refine z11 Try.func95 rfl (by decide +kernel) (by rw [Try.ntmps95]; simp) ?_; rw [Try.ntmps95]; simp only [frOf]
    (repeat (first | refine j0 ?_ | refine q7 rfl ?_ | refine z7 rfl ?_ | refine x6 ?_ | (refine z2 fun K hK => ?_) | (refine x4 (by kernel_rfl) (by kernel_rfl) fun K hK => ?_) | ((first | refine j5 ?_ | refine q6 ?_ | ((first | refine z1 (hK _ ?_) | refine q5 (hK _ _ (j4 (by kernel_rfl)) ?_)); clear hK K)); (first | show AWP _ _ _ _ _ | ((try simp only [q8]); first | show loopQ _ _ _ _ _ _ | show cutQ _ _ _ _ | show AWP _ _ _ _ _))) | ((first | refine x7 [5] rfl ?_ | refine j7 [5] rfl ?_); simp (maxSteps := 2000000) (disch := omega) only [go_sem, seval, hd, cb, x5, j6]; (repeat (first | refine ⟨by omega, ?_⟩ | refine ⟨True.intro, ?_⟩)))))
    refine awp_slot 2 _ (.p (.d (.sl 4 l.length (rowC l)))) rfl (le_gr (by omega) (fun i hi => by unfold catF; rw [if_neg (by omega)]; rfl)) ?_
    refine x9 ⟨_, ?_, rfl⟩; rw [Try.results95]; simp (disch := omega) only [ResVars, ResVar, ptrLoc, go_sem, seval, hd, cb, x5, j6]
end Go.Proofs.Ytbiildleaelodaa
set_option linter.unusedSimpArgs false
set_option linter.unusedVariables false
namespace Go.Proofs.Ytbiildleaelodaa
open Go.Proofs.Ytbiildleaelodaa.AL
def ixRI (l : List Rule) (g : FuncId) (caps : List PV) (p : Rule → Bool) (R : Int) (s : {i : Nat // i ≤ l.length ∧ idxF p (l.drop i) i = R}) : ASt :=
  ⟨[(8, .p (.d (.v (.int .i64 (s.val : Int))))), (7, .p (.d (.v (.int .i64 (l.length : Int))))), (1, .p (.fn (.func g) [] caps)), (0, .p (.d (.sl 12 l.length (rowR l))))], []⟩
theorem IndexR_c (g : FuncId) (caps : List PV) (p : Rule → Bool) (l : List Rule) (hl : l.length ≤ 140737488355328) (hp : ∀ k ∈ l, ACalls Try.prog g (.agg (ruleD k) :: caps) (· = [.d (.v (.bool (p k)))])) :
    ACalls Try.prog 121 [.d (.sl 12 l.length (rowR l)), .fn (.func g) [] caps] (· = [.d (.v (.int .i64 (idxF p l 0)))]) := by
  obtain ⟨R, hR⟩ : ∃ R, idxF p l 0 = R := ⟨_, rfl⟩
  rw [hR]
  refine z11 Try.func121 rfl (by decide +kernel) (by rw [Try.ntmps121]; simp) ?_; rw [Try.ntmps121]; simp only [frOf]
  (repeat (first | refine j0 ?_ | refine q7 rfl ?_ | refine z7 rfl ?_ | refine x6 ?_ | (refine z2 fun K hK => ?_) | (refine x4 (by kernel_rfl) (by kernel_rfl) fun K hK => ?_) | ((first | refine j5 ?_ | refine q6 ?_ | ((first | refine z1 (hK _ ?_) | refine q5 (hK _ _ (j4 (by kernel_rfl)) ?_)); clear hK K)); (first | show AWP _ _ _ _ _ | ((try simp only [q8]); first | show loopQ _ _ _ _ _ _ | show cutQ _ _ _ _ | show AWP _ _ _ _ _))) | ((first | refine x7 [] rfl ?_ | refine j7 [] rfl ?_); simp (maxSteps := 2000000) (disch := omega) only [go_sem, seval, hd, cb, ruleD]; (repeat (first | refine ⟨by omega, ?_⟩ | refine ⟨True.intro, ?_⟩)))))
  refine awp_loop (ixRI l g caps p R) (fun s => l.length - s.val) ⟨0, by omega, by rw [List.drop_zero]; exact hR⟩ ?_ (fun s => ?_)
  · unfold ixRI
    refine Weak.list ?_ ?_; (all_goals simp (disch := omega) only [AllF, AllL, x10, j10, z10, exists_eq_left', Option.some.injEq, go_sem, seval, hd, cb, ruleD]); (all_goals (repeat' (with_reducible apply And.intro))); (all_goals try (first | exact z6 rfl | (refine q11 ?_; omega) | (refine z6 ?_; simp; done)))
  obtain ⟨i, hi, he⟩ := s
  unfold ixRI
  by_cases hn : i < l.length
  · rw [drop_getD l i r0 hn] at he
    have r1 := rowR_at l i
    have hk := hp _ (getD_in hn r0)
    generalize l.getD i r0 = K at he r1 hk
    unfold idxF at he
    cases hb : p K
    all_goals
      rw [hb] at he hk
      simp only [Bool.false_eq_true, if_false, if_true] at he
      (repeat (first | refine j0 ?_ | refine q7 rfl ?_ | refine z7 rfl ?_ | refine x6 ?_ | (refine z2 fun K hK => ?_) | (refine x4 (by kernel_rfl) (by kernel_rfl) fun K hK => ?_) | ((first | refine j5 ?_ | refine q6 ?_ | ((first | refine z1 (hK _ ?_) | refine q5 (hK _ _ (j4 (by kernel_rfl)) ?_)); clear hK K)); (first | show AWP _ _ _ _ _ | ((try simp only [q8]); first | show loopQ _ _ _ _ _ _ | show cutQ _ _ _ _ | show AWP _ _ _ _ _))) | ((first | refine j9 rfl rfl rfl ?_ | refine q10 rfl rfl rfl ?_); simp (maxSteps := 2000000) (disch := omega) only [go_sem, seval, hd, cb, ruleD, r1]; (first | refine ⟨_, hk, ?_⟩)) | ((first | refine x7 [] rfl ?_ | refine j7 [] rfl ?_); simp (maxSteps := 2000000) (disch := omega) only [go_sem, seval, hd, cb, ruleD, r1]; (repeat (first | refine ⟨by omega, ?_⟩ | refine ⟨True.intro, ?_⟩)))))
    · refine ⟨⟨i + 1, by omega, he⟩, by simp only []; omega, ?_⟩
      refine Weak.list ?_ ?_; (all_goals simp (disch := omega) only [AllF, AllL, x10, j10, z10, exists_eq_left', Option.some.injEq, go_sem, seval, hd, cb, ruleD, r1]); (all_goals (repeat' (with_reducible apply And.intro))); (all_goals try (first | exact z6 rfl | (refine q11 ?_; omega) | (refine z6 ?_; simp; done)))
    · refine x9 ⟨_, ?_, rfl⟩; rw [Try.results121]; simp (disch := omega) only [ResVars, ResVar, ptrLoc, go_sem, seval, hd, cb, ruleD, r1]
      rw [he]
  · have : i = l.length := by omega
    subst this
    rw [List.drop_length] at he
    unfold idxF at he
    (repeat (first | refine j0 ?_ | refine q7 rfl ?_ | refine z7 rfl ?_ | refine x6 ?_ | (refine z2 fun K hK => ?_) | (refine x4 (by kernel_rfl) (by kernel_rfl) fun K hK => ?_) | ((first | refine j5 ?_ | refine q6 ?_ | ((first | refine z1 (hK _ ?_) | refine q5 (hK _ _ (j4 (by kernel_rfl)) ?_)); clear hK K)); (first | show AWP _ _ _ _ _ | ((try simp only [q8]); first | show loopQ _ _ _ _ _ _ | show cutQ _ _ _ _ | show AWP _ _ _ _ _))) | ((first | refine x7 [] rfl ?_ | refine j7 [] rfl ?_); simp (maxSteps := 2000000) (disch := omega) only [go_sem, seval, hd, cb, ruleD]; (repeat (first | refine ⟨by omega, ?_⟩ | refine ⟨True.intro, ?_⟩)))))
    refine x9 ⟨_, ?_, rfl⟩; rw [Try.results121]; simp (disch := omega) only [ResVars, ResVar, ptrLoc, go_sem, seval, hd, cb, ruleD]
    rw [he]
theorem ContainsR_c (g : FuncId) (caps : List PV) (p : Rule → Bool) (l : List Rule) (hl : l.length ≤ 140737488355328) (hp : ∀ k ∈ l, ACalls Try.prog g (.agg (ruleD k) :: caps) (· = [.d (.v (.bool (p k)))])) :
    ACalls Try.prog 92 [.d (.sl 12 l.length (rowR l)), .fn (.func g) [] caps] (· = [.d (.v (.bool (l.any p)))]) := by
  have ix := IndexR_c g caps p l hl hp
  have ia := idxF_any p l 0
  generalize idxF p l 0 = R at ix ia
  refine z11 Try.func92 rfl (by decide +kernel) (by rw [Try.ntmps92]; simp) ?_; rw [Try.ntmps92]; simp only [frOf]
  (repeat (first | refine j0 ?_ | refine q7 rfl ?_ | refine z7 rfl ?_ | refine x6 ?_ | (refine z2 fun K hK => ?_) | (refine x4 (by kernel_rfl) (by kernel_rfl) fun K hK => ?_) | ((first | refine j5 ?_ | refine q6 ?_ | ((first | refine z1 (hK _ ?_) | refine q5 (hK _ _ (j4 (by kernel_rfl)) ?_)); clear hK K)); (first | show AWP _ _ _ _ _ | ((try simp only [q8]); first | show loopQ _ _ _ _ _ _ | show cutQ _ _ _ _ | show AWP _ _ _ _ _))) | ((first | refine j9 rfl rfl rfl ?_ | refine q10 rfl rfl rfl ?_); simp (maxSteps := 2000000) (disch := omega) only [go_sem, seval, hd, cb, ruleD]; (first | refine ⟨_, ix, ?_⟩)) | ((first | refine x7 [] rfl ?_ | refine j7 [] rfl ?_); simp (maxSteps := 2000000) (disch := omega) only [go_sem, seval, hd, cb, ruleD]; (repeat (first | refine ⟨by omega, ?_⟩ | refine ⟨True.intro, ?_⟩)))))
  refine x9 ⟨_, ?_, rfl⟩; rw [Try.results92]; simp (disch := omega) only [ResVars, ResVar, ptrLoc, go_sem, seval, hd, cb, ruleD]
  rw [ia]
end Go.Proofs.Ytbiildleaelodaa
set_option linter.unusedSimpArgs false
set_option linter.unusedVariables false
namespace Go.Proofs.Ytbiildleaelodaa
open Go.Proofs.Ytbiildleaelodaa.AL
theorem rowC_put (out : List Cube) (c : Cube) (i : Nat) (hlt : i < out.length + 1) : catF out.length (rowC out) (fun i => [cb c].getD i []) i = rowC (out ++ [c]) i := by
  unfold catF rowC
  by_cases h : i < out.length
  · simp only [if_pos h, List.getD_eq_getElem?_getD, List.getElem?_append_left h]
  · have : i = out.length := by omega
    subst this
    simp
theorem rowC_cat (a b : List Cube) (i : Nat) : catF a.length (rowC a) (rowC b) i = rowC (a ++ b) i := by
  unfold catF rowC
  by_cases h : i < a.length
  · simp only [if_pos h, List.getD_eq_getElem?_getD, List.getElem?_append_left h]
  · simp only [if_neg h, List.getD_eq_getElem?_getD, List.getElem?_append_right (Nat.le_of_not_lt h)]
def leanTo (l : List Cube) (i : Nat) : List Cube := (List.range i).filterMap fun n => if spareP l n then none else some (l.getD n ⟨0, 0⟩)
def leanP (l : List Cube) : List Cube := leanTo l l.length
theorem leanTo_succ (l : List Cube) (i : Nat) : leanTo l (i + 1) = leanTo l i ++ if spareP l i then [] else [l.getD i ⟨0, 0⟩] := by
  unfold leanTo
  rw [List.range_succ, List.filterMap_append]
  congr 1
  cases h : spareP l i <;> simp [h]
theorem leanTo_len (l : List Cube) (i : Nat) : (leanTo l i).length ≤ i := by
  unfold leanTo
  exact Nat.le_trans (List.length_filterMap_le _ _) (by simp)
def leanI (l : List Cube) (s : {s : Nat × List Cube // s.1 ≤ l.length ∧ s.2 = leanTo l s.1}) : ASt :=
  ⟨[(8, .p (.d (.v (.int .i64 (s.val.1 : Int))))), (7, .p (.d (.v (.int .i64 (l.length : Int))))), (6, .p (.d (.sl 4 l.length (rowC l)))), (3, .gr 3 s.val.2.length 4 s.val.2.length (rowC s.val.2)), (0, .p (.d (.sl 4 l.length (rowC l))))],
   [(3, .grow 46 4 s.val.2.length s.val.2.length)]⟩
set_option maxHeartbeats 1000000 in
theorem Lean_c (l : List Cube) (hl : l.length ≤ 1099511627776) : ACalls Try.prog 126 [.d (.sl 4 l.length (rowC l))] (· = [.d (.sl 4 (leanP l).length (rowC (leanP l)))]) := by
  refine z11 Try.func126 rfl (by decide +kernel) (by rw [Try.ntmps126]; simp) ?_; rw [Try.ntmps126]; simp only [frOf]
  (repeat (first | refine j0 ?_ | refine q7 rfl ?_ | refine z7 rfl ?_ | refine x6 ?_ | (refine z2 fun K hK => ?_) | (refine x4 (by kernel_rfl) (by kernel_rfl) fun K hK => ?_) | ((first | refine j5 ?_ | refine q6 ?_ | ((first | refine z1 (hK _ ?_) | refine q5 (hK _ _ (j4 (by kernel_rfl)) ?_)); clear hK K)); (first | show AWP _ _ _ _ _ | ((try simp only [q8]); first | show loopQ _ _ _ _ _ _ | show cutQ _ _ _ _ | show AWP _ _ _ _ _))) | ((first | refine x7 [] rfl ?_ | refine j7 [] rfl ?_); simp (maxSteps := 2000000) (disch := omega) only [go_sem, seval, hd, cb, x5, j6]; (repeat (first | refine ⟨by omega, ?_⟩ | refine ⟨True.intro, ?_⟩)))))
  refine awp_grow 3 3 4 46 (rowC []) rfl (by kernel_rfl) rfl ?_
  refine awp_loop (leanI l) (fun s => l.length - s.val.1) ⟨(0, []), by simp, by simp [leanTo]⟩ ?_ (fun s => ?_)
  · unfold leanI
    refine Weak.list ?_ ?_; (all_goals simp (disch := omega) only [AllF, AllL, x10, j10, z10, exists_eq_left', Option.some.injEq, go_sem, seval, hd, cb, x5, j6]); (all_goals (repeat' (with_reducible apply And.intro))); (all_goals try (first | exact z6 rfl | (refine q11 ?_; omega) | (refine z6 ?_; simp; done)))
  obtain ⟨⟨i, out⟩, hi, he⟩ := s
  unfold leanI
  simp only [] at hi he
  have ho := leanTo_len l i
  rw [← he] at ho
  by_cases hn : i < l.length
  · have sp := spare_c l i (by omega) hn
    have st := leanTo_succ l i
    rw [← he] at st
    have r1 := rowC_at l i
    generalize l.getD i ⟨0, 0⟩ = K at r1 st
    cases h : spareP l i
    all_goals
      rw [h] at sp st
      simp only [Bool.false_eq_true, if_false, if_true] at st
      (repeat (first | refine j0 ?_ | refine q7 rfl ?_ | refine z7 rfl ?_ | refine x6 ?_ | (refine z2 fun K hK => ?_) | (refine x4 (by kernel_rfl) (by kernel_rfl) fun K hK => ?_) | ((first | refine j5 ?_ | refine q6 ?_ | ((first | refine z1 (hK _ ?_) | refine q5 (hK _ _ (j4 (by kernel_rfl)) ?_)); clear hK K)); (first | show AWP _ _ _ _ _ | ((try simp only [q8]); first | show loopQ _ _ _ _ _ _ | show cutQ _ _ _ _ | show AWP _ _ _ _ _))) | ((first | refine j9 rfl rfl rfl ?_ | refine q10 rfl rfl rfl ?_); simp (maxSteps := 2000000) (disch := omega) only [go_sem, seval, hd, cb, x5, j6, r1]; (first | refine ⟨_, sp, ?_⟩)) | ((first | refine x7 [] rfl ?_ | refine j7 [] rfl ?_); simp (maxSteps := 2000000) (disch := omega) only [go_sem, seval, hd, cb, x5, j6, r1]; (repeat (first | refine ⟨by omega, ?_⟩ | refine ⟨True.intro, ?_⟩)))))
    · refine ⟨⟨(i + 1, out ++ [K]), by simp only []; omega, st.symm⟩, by simp only []; omega, ?_⟩
      refine Weak.list ?_ ?_; (all_goals simp (disch := omega) only [AllF, AllL, x10, j10, z10, exists_eq_left', Option.some.injEq, go_sem, seval, hd, cb, x5, j6, r1]); (all_goals (repeat' (with_reducible apply And.intro))); (all_goals try (first | exact z6 rfl | (refine q11 ?_; omega) | (refine z6 ?_; simp; done)))
      · exact le_grgr (by simp) (by simp) (fun j hj => rowC_put out K j hj)
      · exact lle_grow (by simp) (by simp)
    · rw [List.append_nil] at st
      refine ⟨⟨(i + 1, out), by simp only []; omega, st.symm⟩, by simp only []; omega, ?_⟩
      refine Weak.list ?_ ?_; (all_goals simp (disch := omega) only [AllF, AllL, x10, j10, z10, exists_eq_left', Option.some.injEq, go_sem, seval, hd, cb, x5, j6, r1]); (all_goals (repeat' (with_reducible apply And.intro))); (all_goals try (first | exact z6 rfl | (refine q11 ?_; omega) | (refine z6 ?_; simp; done)))
  · have hil : i = l.length := by omega
    subst hil
    (repeat (first | refine j0 ?_ | refine q7 rfl ?_ | refine z7 rfl ?_ | refine x6 ?_ | (refine z2 fun K hK => ?_) | (refine x4 (by kernel_rfl) (by kernel_rfl) fun K hK => ?_) | ((first | refine j5 ?_ | refine q6 ?_ | ((first | refine z1 (hK _ ?_) | refine q5 (hK _ _ (j4 (by kernel_rfl)) ?_)); clear hK K)); (first | show AWP _ _ _ _ _ | ((try simp only [q8]); first | show loopQ _ _ _ _ _ _ | show cutQ _ _ _ _ | show AWP _ _ _ _ _))) | ((first | refine x7 [] rfl ?_ | refine j7 [] rfl ?_); simp (maxSteps := 2000000) (disch := omega) only [go_sem, seval, hd, cb, x5, j6]; (repeat (first | refine ⟨by omega, ?_⟩ | refine ⟨True.intro, ?_⟩)))))
    refine awp_slot 2 _ (.p (.d (.sl 4 (leanP l).length (rowC (leanP l))))) rfl ?_ ?_
    · unfold leanP
      rw [← he]
      exact le_gr rfl (fun _ _ => rfl)
    refine x9 ⟨_, ?_, rfl⟩; rw [Try.results126]; simp (disch := omega) only [ResVars, ResVar, ptrLoc, go_sem, seval, hd, cb, x5, j6]
def leanE (l : List Cube) : Int := if (leanP l).length > 200 then 10 else 0
def leanV (l : List Cube) : List Cube := if (leanP l).length > 200 then [] else leanP l
theorem lean_c (l : List Cube) (hl : l.length ≤ 1099511627776) : ACalls Try.prog 97 [.d (.sl 4 l.length (rowC l))] (· = [.d (.sl 4 (leanV l).length (rowC (leanV l))), .d (.v (.int .i64 (leanE l)))]) := by
  have le := Lean_c l hl
  have hlen : (leanP l).length ≤ l.length := leanTo_len l _
  unfold leanE leanV
  generalize leanP l = m at le hlen
  have cl := Clip_c m.length (rowC m) (by omega)
  by_cases h : m.length > 200
  · rw [if_pos h, if_pos h]
    refine z11 Try.func97 rfl (by decide +kernel) (by rw [Try.ntmps97]; simp) ?_; rw [Try.ntmps97]; simp only [frOf]
    (repeat (first | refine j0 ?_ | refine q7 rfl ?_ | refine z7 rfl ?_ | refine x6 ?_ | (refine z2 fun K hK => ?_) | (refine x4 (by kernel_rfl) (by kernel_rfl) fun K hK => ?_) | ((first | refine j5 ?_ | refine q6 ?_ | ((first | refine z1 (hK _ ?_) | refine q5 (hK _ _ (j4 (by kernel_rfl)) ?_)); clear hK K)); (first | show AWP _ _ _ _ _ | ((try simp only [q8]); first | show loopQ _ _ _ _ _ _ | show cutQ _ _ _ _ | show AWP _ _ _ _ _))) | ((first | refine j9 rfl rfl rfl ?_ | refine q10 rfl rfl rfl ?_); simp (maxSteps := 2000000) (disch := omega) only [go_sem, seval, hd, cb, x5, j6]; (first | refine ⟨_, le, ?_⟩ | refine ⟨_, cl, ?_⟩)) | ((first | refine x7 [] rfl ?_ | refine j7 [] rfl ?_); simp (maxSteps := 2000000) (disch := omega) only [go_sem, seval, hd, cb, x5, j6]; (repeat (first | refine ⟨by omega, ?_⟩ | refine ⟨True.intro, ?_⟩)))))
    refine awp_slot 2 _ (.p (.d (.sl 4 ([] : List Cube).length (rowC [])))) rfl (le_nil 4 _ _ rfl) ?_
    refine x9 ⟨_, ?_, rfl⟩; rw [Try.results97]; simp (disch := omega) only [ResVars, ResVar, ptrLoc, go_sem, seval, hd, cb, x5, j6]
  · rw [if_neg h, if_neg h]
    refine z11 Try.func97 rfl (by decide +kernel) (by rw [Try.ntmps97]; simp) ?_; rw [Try.ntmps97]; simp only [frOf]
    (repeat (first | refine j0 ?_ | refine q7 rfl ?_ | refine z7 rfl ?_ | refine x6 ?_ | (refine z2 fun K hK => ?_) | (refine x4 (by kernel_rfl) (by kernel_rfl) fun K hK => ?_) | ((first | refine j5 ?_ | refine q6 ?_ | ((first | refine z1 (hK _ ?_) | refine q5 (hK _ _ (j4 (by kernel_rfl)) ?_)); clear hK K)); (first | show AWP _ _ _ _ _ | ((try simp only [q8]); first | show loopQ _ _ _ _ _ _ | show cutQ _ _ _ _ | show AWP _ _ _ _ _))) | ((first | refine j9 rfl rfl rfl ?_ | refine q10 rfl rfl rfl ?_); simp (maxSteps := 2000000) (disch := omega) only [go_sem, seval, hd, cb, x5, j6]; (first | refine ⟨_, le, ?_⟩ | refine ⟨_, cl, ?_⟩)) | ((first | refine x7 [] rfl ?_ | refine j7 [] rfl ?_); simp (maxSteps := 2000000) (disch := omega) only [go_sem, seval, hd, cb, x5, j6]; (repeat (first | refine ⟨by omega, ?_⟩ | refine ⟨True.intro, ?_⟩)))))
    refine x9 ⟨_, ?_, rfl⟩; rw [Try.results97]; simp (disch := omega) only [ResVars, ResVar, ptrLoc, go_sem, seval, hd, cb, x5, j6]
def pairE (a b : List Cube) : Int := if soundP a && soundP b then 0 else 2
theorem pair_c (a b : List Cube) (ha : a.length ≤ 1099511627776) (hb : b.length ≤ 1099511627776) : ACalls Try.prog 94 [.d (.sl 4 a.length (rowC a)), .d (.sl 4 b.length (rowC b))] (· = [.d (.v (.int .i64 (pairE a b)))]) := by
  have s1 := SoundP_c a (by omega)
  have s2 := SoundP_c b (by omega)
  unfold pairE
  cases h1 : soundP a <;> cases h2 : soundP b
  all_goals
    rw [h1] at s1
    rw [h2] at s2
    refine z11 Try.func94 rfl (by decide +kernel) (by rw [Try.ntmps94]; simp) ?_; rw [Try.ntmps94]; simp only [frOf]
    (repeat (first | refine j0 ?_ | refine q7 rfl ?_ | refine z7 rfl ?_ | refine x6 ?_ | (refine z2 fun K hK => ?_) | (refine x4 (by kernel_rfl) (by kernel_rfl) fun K hK => ?_) | ((first | refine j5 ?_ | refine q6 ?_ | ((first | refine z1 (hK _ ?_) | refine q5 (hK _ _ (j4 (by kernel_rfl)) ?_)); clear hK K)); (first | show AWP _ _ _ _ _ | ((try simp only [q8]); first | show loopQ _ _ _ _ _ _ | show cutQ _ _ _ _ | show AWP _ _ _ _ _))) | ((first | refine j9 rfl rfl rfl ?_ | refine q10 rfl rfl rfl ?_); simp (maxSteps := 2000000) (disch := omega) only [go_sem, seval, hd, cb, x5, j6]; (first | refine ⟨_, s1, ?_⟩ | refine ⟨_, s2, ?_⟩)) | ((first | refine x7 [] rfl ?_ | refine j7 [] rfl ?_); simp (maxSteps := 2000000) (disch := omega) only [go_sem, seval, hd, cb, x5, j6]; (repeat (first | refine ⟨by omega, ?_⟩ | refine ⟨True.intro, ?_⟩)))))
    refine x9 ⟨_, ?_, rfl⟩; rw [Try.results94]; simp (disch := omega) only [ResVars, ResVar, ptrLoc, go_sem, seval, hd, cb, x5, j6]
end Go.Proofs.Ytbiildleaelodaa
set_option linter.unusedSimpArgs false
set_option linter.unusedVariables false
namespace Go.Proofs.Ytbiildleaelodaa
open Go.Proofs.Ytbiildleaelodaa.AL
def cbA (k : Cube) : List AV := [.p (.d (.v (.int .u64 (hi k.v)))), .p (.d (.v (.int .u64 (lo k.v)))), .p (.d (.v (.int .u64 (hi k.c)))), .p (.d (.v (.int .u64 (lo k.c))))]
theorem soundP_len {a : List Cube} (h : soundP a = true) : a.length ≤ 200 := by
  unfold soundP at h
  rw [Bool.and_eq_true] at h
  exact of_decide_eq_true h.1
def lessRest (out : List Cube) (y : Cube) : List Cube := out.flatMap fun x => lessL x y
def lessP : List Cube → List Cube → List Cube × Int
  | [], out => (out, 0)
  | y :: r, out => if leanE (lessRest out y) = 0 then lessP r (leanV (lessRest out y)) else ([], leanE (lessRest out y))
theorem leanV_len (l : List Cube) : (leanV l).length ≤ 200 := by
  unfold leanV
  split
  · simp
  · omega
def lessPI (b : List Cube) (R : List Cube × Int) (s : {s : Nat × List Cube // s.1 ≤ b.length ∧ lessP (b.drop s.1) s.2 = R ∧ s.2.length ≤ 200}) : ASt :=
  ⟨[(24, .p (.d (.v (.int .i64 (s.val.1 : Int))))), (23, .p (.d (.v (.int .i64 (b.length : Int))))), (22, .p (.d (.sl 4 b.length (rowC b)))), (7, .p (.d (.sl 4 s.val.2.length (rowC s.val.2))))], []⟩
def lessPJ (b out : List Cube) (y : Cube) (i : Nat) (s : {s : Nat × List Cube // s.1 ≤ out.length ∧ s.2 = (out.take s.1).flatMap (fun x => lessL x y) ∧ s.2.length ≤ s.1 * 128}) : ASt :=
  ⟨[(30, .p (.d (.v (.int .i64 (s.val.1 : Int))))), (29, .p (.d (.v (.int .i64 (out.length : Int))))), (28, .p (.d (.sl 4 out.length (rowC out)))), (9, .loc 9 0), (10, .gr 10 s.val.1 4 s.val.2.length (rowC s.val.2)),
    (24, .p (.d (.v (.int .i64 (i : Int))))), (23, .p (.d (.v (.int .i64 (b.length : Int))))), (22, .p (.d (.sl 4 b.length (rowC b))))],
   [(9, .cells 46 (cbA y)), (10, .grow 46 4 s.val.2.length s.val.1)]⟩
theorem lessL_len' (a b : Cube) : (lessL a b).length ≤ 128 := by
  have go : ∀ (more : BitVec 128) (n : Nat) (r : Cube), (lessGo b more n r).length ≤ n := by
    intro more n
    induction n with
    | zero => intro r; simp [lessGo]
    | succ n ih =>
      intro r
      unfold lessGo
      split
      · have := ih ⟨r.v ||| b.v &&& ones 1 <<< n, r.c ||| ones 1 <<< n⟩; simp; omega
      · have := ih r; omega
  unfold lessL
  split
  · split
    · exact go _ _ _
    · simp
  · simp
set_option maxRecDepth 100000 in
set_option maxHeartbeats 2000000 in
theorem LessP_c' (a b : List Cube) (ha : a.length ≤ 1099511627776) (hb : b.length ≤ 1099511627776) (R : List Cube × Int) (hR : (if soundP a && soundP b then lessP b a else ([], 2)) = R) : ACalls Try.prog 68 [.d (.sl 4 a.length (rowC a)), .d (.sl 4 b.length (rowC b))]
    (· = [.d (.sl 4 R.1.length (rowC R.1)), .d (.v (.int .i64 R.2))]) := by
  have pr := pair_c a b ha hb
  unfold pairE at pr
  cases hs : (soundP a && soundP b)
  · rw [hs] at pr hR
    simp only [Bool.false_eq_true, if_false] at pr hR
    subst hR
    refine z11 Try.func68 rfl (by decide +kernel) (by rw [Try.ntmps68]; simp) ?_; rw [Try.ntmps68]; simp only [frOf]
    (repeat (first | refine j0 ?_ | refine q7 rfl ?_ | refine z7 rfl ?_ | refine x6 ?_ | (refine z2 fun K hK => ?_) | (refine x4 (by kernel_rfl) (by kernel_rfl) fun K hK => ?_) | ((first | refine j5 ?_ | refine q6 ?_ | ((first | refine z1 (hK _ ?_) | refine q5 (hK _ _ (j4 (by kernel_rfl)) ?_)); clear hK K)); (first | show AWP _ _ _ _ _ | ((try simp only [q8]); first | show loopQ _ _ _ _ _ _ | show cutQ _ _ _ _ | show AWP _ _ _ _ _))) | ((first | refine j9 rfl rfl rfl ?_ | refine q10 rfl rfl rfl ?_); simp (maxSteps := 2000000) (disch := omega) only [go_sem, seval, hd, cb, x5, j6]; (first | refine ⟨_, pr, ?_⟩)) | ((first | refine x7 [] rfl ?_ | refine j7 [] rfl ?_); simp (maxSteps := 2000000) (disch := omega) only [go_sem, seval, hd, cb, x5, j6]; (repeat (first | refine ⟨by omega, ?_⟩ | refine ⟨True.intro, ?_⟩)))))
    refine awp_slot 4 _ (.p (.d (.sl 4 ([] : List Cube).length (rowC [])))) rfl (le_nil 4 _ _ rfl) ?_
    refine x9 ⟨_, ?_, rfl⟩; rw [Try.results68]; simp (disch := omega) only [ResVars, ResVar, ptrLoc, go_sem, seval, hd, cb, x5, j6]
  · rw [hs] at pr hR
    simp only [if_true] at pr hR
    rw [Bool.and_eq_true] at hs
    have h1 := soundP_len hs.1
    have h2 := soundP_len hs.2
    have cl := Clone_c a ha
    refine z11 Try.func68 rfl (by decide +kernel) (by rw [Try.ntmps68]; simp) ?_; rw [Try.ntmps68]; simp only [frOf]
    (repeat (first | refine j0 ?_ | refine q7 rfl ?_ | refine z7 rfl ?_ | refine x6 ?_ | (refine z2 fun K hK => ?_) | (refine x4 (by kernel_rfl) (by kernel_rfl) fun K hK => ?_) | ((first | refine j5 ?_ | refine q6 ?_ | ((first | refine z1 (hK _ ?_) | refine q5 (hK _ _ (j4 (by kernel_rfl)) ?_)); clear hK K)); (first | show AWP _ _ _ _ _ | ((try simp only [q8]); first | show loopQ _ _ _ _ _ _ | show cutQ _ _ _ _ | show AWP _ _ _ _ _))) | ((first | refine j9 rfl rfl rfl ?_ | refine q10 rfl rfl rfl ?_); simp (maxSteps := 2000000) (disch := omega) only [go_sem, seval, hd, cb, x5, j6]; (first | refine ⟨_, pr, ?_⟩ | refine ⟨_, cl, ?_⟩)) | ((first | refine x7 [] rfl ?_ | refine j7 [] rfl ?_); simp (maxSteps := 2000000) (disch := omega) only [go_sem, seval, hd, cb, x5, j6]; (repeat (first | refine ⟨by omega, ?_⟩ | refine ⟨True.intro, ?_⟩)))))
    refine awp_loop (lessPI b R) (fun s => b.length - s.val.1) ⟨(0, a), by simp, by rw [List.drop_zero]; exact hR, h1⟩ ?_ (fun s => ?_)
    · unfold lessPI
      refine Weak.list ?_ ?_; (all_goals simp (disch := omega) only [AllF, AllL, x10, j10, z10, exists_eq_left', Option.some.injEq, go_sem, seval, hd, cb, x5, j6]); (all_goals (repeat' (with_reducible apply And.intro))); (all_goals try (first | exact z6 rfl | (refine q11 ?_; omega) | (refine z6 ?_; simp; done)))
    obtain ⟨⟨i, out⟩, hi, he, ho⟩ := s
    unfold lessPI
    simp only [] at hi he ho
    by_cases hn : i < b.length
    · have r1 := rowC_at b i
      rw [drop_getD b i ⟨0, 0⟩ hn] at he
      generalize b.getD i ⟨0, 0⟩ = Y at r1 he
      (repeat ((fail_if_success (show AWP _ _ (.region 9 _ _) _ _)); first | refine j0 ?_ | refine q7 rfl ?_ | refine z7 rfl ?_ | refine x6 ?_ | (refine z2 fun K hK => ?_) | (refine x4 (by kernel_rfl) (by kernel_rfl) fun K hK => ?_) | ((first | refine j5 ?_ | refine q6 ?_ | ((first | refine z1 (hK _ ?_) | refine q5 (hK _ _ (j4 (by kernel_rfl)) ?_)); clear hK K)); (first | show AWP _ _ _ _ _ | ((try simp only [q8]); first | show loopQ _ _ _ _ _ _ | show cutQ _ _ _ _ | show AWP _ _ _ _ _))) | ((first | refine x7 [] rfl ?_ | refine j7 [] rfl ?_); simp (maxSteps := 2000000) (disch := omega) only [go_sem, seval, hd, cb, x5, j6, r1]; (repeat (first | refine ⟨by omega, ?_⟩ | refine ⟨True.intro, ?_⟩)))))
      refine awp_grow 10 10 4 46 (rowC []) rfl (by kernel_rfl) rfl ?_
      (repeat (first | refine j0 ?_ | refine q7 rfl ?_ | refine z7 rfl ?_ | refine x6 ?_ | (refine z2 fun K hK => ?_) | (refine x4 (by kernel_rfl) (by kernel_rfl) fun K hK => ?_) | ((first | refine j5 ?_ | refine q6 ?_ | ((first | refine z1 (hK _ ?_) | refine q5 (hK _ _ (j4 (by kernel_rfl)) ?_)); clear hK K)); (first | show AWP _ _ _ _ _ | ((try simp only [q8]); first | show loopQ _ _ _ _ _ _ | show cutQ _ _ _ _ | show AWP _ _ _ _ _))) | ((first | refine x7 [] rfl ?_ | refine j7 [] rfl ?_); simp (maxSteps := 2000000) (disch := omega) only [go_sem, seval, hd, cb, x5, j6, r1]; (repeat (first | refine ⟨by omega, ?_⟩ | refine ⟨True.intro, ?_⟩)))))
      refine awp_loop (lessPJ b out Y i) (fun s => out.length - s.val.1) ⟨(0, []), by simp, by simp, by simp⟩ ?_ (fun s => ?_)
      · unfold lessPJ cbA
        refine Weak.list ?_ ?_; (all_goals simp (disch := omega) only [AllF, AllL, x10, j10, z10, exists_eq_left', Option.some.injEq, go_sem, seval, hd, cb, x5, j6, r1]); (all_goals (repeat' (with_reducible apply And.intro))); (all_goals try (first | exact z6 rfl | (refine q11 ?_; omega) | (refine z6 ?_; simp; done)))
      obtain ⟨⟨j, rest⟩, hj, he2, ho2⟩ := s
      unfold lessPJ cbA
      simp only [] at hj he2 ho2
      by_cases hm : j < out.length
      · have r2 := rowC_at out j
        have st2 := take_succ_getD out j ⟨0, 0⟩ hm
        generalize out.getD j ⟨0, 0⟩ = X at r2 st2
        have ls := Less_cube_c X Y
        have ll := lessL_len' X Y
        have so : (out.take (j + 1)).flatMap (fun x => lessL x Y) = (out.take j).flatMap (fun x => lessL x Y) ++ lessL X Y := by
          rw [st2, List.flatMap_append]; simp
        generalize lessL X Y = M at ls ll so
        (repeat (first | refine j0 ?_ | refine q7 rfl ?_ | refine z7 rfl ?_ | refine x6 ?_ | (refine z2 fun K hK => ?_) | (refine x4 (by kernel_rfl) (by kernel_rfl) fun K hK => ?_) | ((first | refine j5 ?_ | refine q6 ?_ | ((first | refine z1 (hK _ ?_) | refine q5 (hK _ _ (j4 (by kernel_rfl)) ?_)); clear hK K)); (first | show AWP _ _ _ _ _ | ((try simp only [q8]); first | show loopQ _ _ _ _ _ _ | show cutQ _ _ _ _ | show AWP _ _ _ _ _))) | ((first | refine j9 rfl rfl rfl ?_ | refine q10 rfl rfl rfl ?_); simp (maxSteps := 2000000) (disch := omega) only [go_sem, seval, hd, cb, x5, j6, r1, r2]; (first | refine ⟨_, ls, ?_⟩)) | ((first | refine x7 [] rfl ?_ | refine j7 [] rfl ?_); simp (maxSteps := 2000000) (disch := omega) only [go_sem, seval, hd, cb, x5, j6, r1, r2]; (repeat (first | refine ⟨by omega, ?_⟩ | refine ⟨True.intro, ?_⟩)))))
        refine ⟨⟨(j + 1, rest ++ M), by simp only []; omega, by rw [so, ← he2], by simp; omega⟩, by simp only []; omega, ?_⟩
        refine Weak.list ?_ ?_; (all_goals simp (disch := omega) only [AllF, AllL, x10, j10, z10, exists_eq_left', Option.some.injEq, go_sem, seval, hd, cb, x5, j6, r1, r2]); (all_goals (repeat' (with_reducible apply And.intro))); (all_goals try (first | exact z6 rfl | (refine q11 ?_; omega) | (refine z6 ?_; simp; done)))
        · exact le_grgr rfl (by simp) (fun k hk => rowC_cat rest M k)
        · exact lle_grow (by simp) rfl
      · have hjl : j = out.length := by omega
        subst hjl
        rw [List.take_length] at he2
        have hre : rest = lessRest out Y := he2
        have ln := lean_c rest (by omega)
        unfold lessP at he
        rw [← hre] at he
        have hv := leanV_len rest
        generalize leanV rest = V at ln he hv
        by_cases h0 : leanE rest = 0
        · rw [if_pos h0] at he
          rw [h0] at ln
          (repeat (first | refine j0 ?_ | refine q7 rfl ?_ | refine z7 rfl ?_ | refine x6 ?_ | (refine z2 fun K hK => ?_) | (refine x4 (by kernel_rfl) (by kernel_rfl) fun K hK => ?_) | ((first | refine j5 ?_ | refine q6 ?_ | ((first | refine z1 (hK _ ?_) | refine q5 (hK _ _ (j4 (by kernel_rfl)) ?_)); clear hK K)); (first | show AWP _ _ _ _ _ | ((try simp only [q8]); first | show loopQ _ _ _ _ _ _ | show cutQ _ _ _ _ | show AWP _ _ _ _ _))) | ((first | refine j9 rfl rfl rfl ?_ | refine q10 rfl rfl rfl ?_); simp (maxSteps := 2000000) (disch := omega) only [go_sem, seval, hd, cb, x5, j6, r1]; (first | refine ⟨_, ln, ?_⟩)) | ((first | refine x7 [] rfl ?_ | refine j7 [] rfl ?_); simp (maxSteps := 2000000) (disch := omega) only [go_sem, seval, hd, cb, x5, j6, r1]; (repeat (first | refine ⟨by omega, ?_⟩ | refine ⟨True.intro, ?_⟩)))))
          refine ⟨⟨(i + 1, V), by simp only []; omega, he, hv⟩, by simp only []; omega, ?_⟩
          refine Weak.list ?_ ?_; (all_goals simp (disch := omega) only [AllF, AllL, x10, j10, z10, exists_eq_left', Option.some.injEq, go_sem, seval, hd, cb, x5, j6, r1]); (all_goals (repeat' (with_reducible apply And.intro))); (all_goals try (first | exact z6 rfl | (refine q11 ?_; omega) | (refine z6 ?_; simp; done)))
        · rw [if_neg h0] at he
          have h10 : leanE rest = 10 := by unfold leanE at h0 ⊢; split <;> simp_all
          rw [h10] at ln he
          subst he
          (repeat (first | refine j0 ?_ | refine q7 rfl ?_ | refine z7 rfl ?_ | refine x6 ?_ | (refine z2 fun K hK => ?_) | (refine x4 (by kernel_rfl) (by kernel_rfl) fun K hK => ?_) | ((first | refine j5 ?_ | refine q6 ?_ | ((first | refine z1 (hK _ ?_) | refine q5 (hK _ _ (j4 (by kernel_rfl)) ?_)); clear hK K)); (first | show AWP _ _ _ _ _ | ((try simp only [q8]); first | show loopQ _ _ _ _ _ _ | show cutQ _ _ _ _ | show AWP _ _ _ _ _))) | ((first | refine j9 rfl rfl rfl ?_ | refine q10 rfl rfl rfl ?_); simp (maxSteps := 2000000) (disch := omega) only [go_sem, seval, hd, cb, x5, j6, r1]; (first | refine ⟨_, ln, ?_⟩)) | ((first | refine x7 [] rfl ?_ | refine j7 [] rfl ?_); simp (maxSteps := 2000000) (disch := omega) only [go_sem, seval, hd, cb, x5, j6, r1]; (repeat (first | refine ⟨by omega, ?_⟩ | refine ⟨True.intro, ?_⟩)))))
          refine awp_slot 4 _ (.p (.d (.sl 4 ([] : List Cube).length (rowC [])))) rfl (le_nil 4 _ _ rfl) ?_
          refine x9 ⟨_, ?_, rfl⟩; rw [Try.results68]; simp (disch := omega) only [ResVars, ResVar, ptrLoc, go_sem, seval, hd, cb, x5, j6, r1]
    · have hil : i = b.length := by omega
      subst hil
      rw [List.drop_length] at he
      unfold lessP at he
      subst he
      have cp := Clip_c out.length (rowC out) (by omega)
      (repeat (first | refine j0 ?_ | refine q7 rfl ?_ | refine z7 rfl ?_ | refine x6 ?_ | (refine z2 fun K hK => ?_) | (refine x4 (by kernel_rfl) (by kernel_rfl) fun K hK => ?_) | ((first | refine j5 ?_ | refine q6 ?_ | ((first | refine z1 (hK _ ?_) | refine q5 (hK _ _ (j4 (by kernel_rfl)) ?_)); clear hK K)); (first | show AWP _ _ _ _ _ | ((try simp only [q8]); first | show loopQ _ _ _ _ _ _ | show cutQ _ _ _ _ | show AWP _ _ _ _ _))) | ((first | refine j9 rfl rfl rfl ?_ | refine q10 rfl rfl rfl ?_); simp (maxSteps := 2000000) (disch := omega) only [go_sem, seval, hd, cb, x5, j6]; (first | refine ⟨_, cp, ?_⟩)) | ((first | refine x7 [] rfl ?_ | refine j7 [] rfl ?_); simp (maxSteps := 2000000) (disch := omega) only [go_sem, seval, hd, cb, x5, j6]; (repeat (first | refine ⟨by omega, ?_⟩ | refine ⟨True.intro, ?_⟩)))))
      refine x9 ⟨_, ?_, rfl⟩; rw [Try.results68]; simp (disch := omega) only [ResVars, ResVar, ptrLoc, go_sem, seval, hd, cb, x5, j6]
def lessPR (a b : List Cube) : List Cube × Int := if soundP a && soundP b then lessP b a else ([], 2)
theorem LessP_c (a b : List Cube) (ha : a.length ≤ 1099511627776) (hb : b.length ≤ 1099511627776) : ACalls Try.prog 68 [.d (.sl 4 a.length (rowC a)), .d (.sl 4 b.length (rowC b))]
    (· = [.d (.sl 4 (lessPR a b).1.length (rowC (lessPR a b).1)), .d (.v (.int .i64 (lessPR a b).2))]) := LessP_c' a b ha hb _ rfl
theorem lessP_err : ∀ (b a : List Cube), (lessP b a).2 = 0 ∨ (lessP b a).2 = 10 ∧ (lessP b a).1 = []
  | [], a => .inl rfl
  | y :: r, a => by
    unfold lessP
    split
    · exact lessP_err r _
    · rename_i h
      refine .inr ⟨?_, rfl⟩
      unfold leanE at h ⊢
      simp only []
      split <;> simp_all
end Go.Proofs.Ytbiildleaelodaa
set_option linter.unusedSimpArgs false
set_option linter.unusedVariables false
namespace Go.Proofs.Ytbiildleaelodaa
open Go.Proofs.Ytbiildleaelodaa.AL
def findO (l : List Rule) (h : BitVec 128) : List Nat → Option Nat
  | [] => none
  | n :: r => if hasC (l.getD n r0).mt h then some n else findO l h r
def findR (l : List Rule) (h : BitVec 128) : Option Nat := findO l h (orderR l)
def findI (l : List Rule) (h : BitVec 128) (R : Option Nat) (s : {i : Nat // i ≤ l.length ∧ findO l h ((orderR l).drop i) = R}) : ASt :=
  ⟨[(11, .p (.d (.v (.int .i64 (s.val : Int))))), (10, .p (.d (.v (.int .i64 (l.length : Int))))), (9, .p (.d (.sl 1 l.length (rowI (orderR l))))), (3, .p (.d (.bx (hd h)))), (0, .p (.d (.sl 12 l.length (rowR l))))], []⟩
set_option maxHeartbeats 2000000 in
theorem Find_c (l : List Rule) (h : BitVec 128) (hl : l.length ≤ 1099511627776) : ACalls Try.prog 15 [.d (.sl 12 l.length (rowR l)), .agg (hd h)] (· = [.d (.v (.int .i64 (((findR l h).getD 0 : Nat) : Int))), .d (.v (.bool (findR l h).isSome))]) := by
  unfold findR
  obtain ⟨R, hR⟩ : ∃ R, findO l h (orderR l) = R := ⟨_, rfl⟩
  rw [hR]
  refine z11 Try.func15 rfl (by decide +kernel) (by rw [Try.ntmps15]; simp) ?_; rw [Try.ntmps15]; simp only [frOf]
  (repeat (first | refine j0 ?_ | refine q7 rfl ?_ | refine z7 rfl ?_ | refine x6 ?_ | (refine z2 fun K hK => ?_) | (refine x4 (by kernel_rfl) (by kernel_rfl) fun K hK => ?_) | ((first | refine j5 ?_ | refine q6 ?_ | ((first | refine z1 (hK _ ?_) | refine q5 (hK _ _ (j4 (by kernel_rfl)) ?_)); clear hK K)); (first | show AWP _ _ _ _ _ | ((try simp only [q8]); first | show loopQ _ _ _ _ _ _ | show cutQ _ _ _ _ | show AWP _ _ _ _ _))) | ((first | refine j9 rfl rfl rfl ?_ | refine q10 rfl rfl rfl ?_); simp (maxSteps := 2000000) (disch := omega) only [go_sem, seval, hd, cb, ruleD]; (first | refine ⟨_, Look_c l hl, ?_⟩)) | ((first | refine x7 [] rfl ?_ | refine j7 [] rfl ?_); simp (maxSteps := 2000000) (disch := omega) only [go_sem, seval, hd, cb, ruleD]; (repeat (first | refine ⟨by omega, ?_⟩ | refine ⟨True.intro, ?_⟩)))))
  refine awp_loop (findI l h R) (fun s => l.length - s.val) ⟨0, by omega, by rw [List.drop_zero]; exact hR⟩ ?_ (fun s => ?_)
  · unfold findI
    refine Weak.list ?_ ?_; (all_goals simp (disch := omega) only [AllF, AllL, x10, j10, z10, exists_eq_left', Option.some.injEq, go_sem, seval, hd, cb, ruleD]); (all_goals (repeat' (with_reducible apply And.intro))); (all_goals try (first | exact z6 rfl | (refine q11 ?_; omega) | (refine z6 ?_; simp; done)))
  obtain ⟨i, hi, he⟩ := s
  unfold findI
  have hol := orderR_len l
  by_cases hn : i < l.length
  · rw [drop_getD (orderR l) i 0 (by omega)] at he
    have r0' := rowI_at (orderR l) i
    have hk := orderR_lt (getD_in (show i < (orderR l).length by omega) 0)
    generalize (orderR l).getD i 0 = k at he r0' hk
    unfold findO at he
    have r1 := rowR_at l k
    have hc := Has_c (l.getD k r0).mt h
    generalize l.getD k r0 = x at he r1 hc
    unfold cb at hc
    cases hb : hasC x.mt h
    all_goals
      rw [hb] at he hc
      simp only [Bool.false_eq_true, if_false, if_true] at he
      (repeat (first | refine j0 ?_ | refine q7 rfl ?_ | refine z7 rfl ?_ | refine x6 ?_ | (refine z2 fun K hK => ?_) | (refine x4 (by kernel_rfl) (by kernel_rfl) fun K hK => ?_) | ((first | refine j5 ?_ | refine q6 ?_ | ((first | refine z1 (hK _ ?_) | refine q5 (hK _ _ (j4 (by kernel_rfl)) ?_)); clear hK K)); (first | show AWP _ _ _ _ _ | ((try simp only [q8]); first | show loopQ _ _ _ _ _ _ | show cutQ _ _ _ _ | show AWP _ _ _ _ _))) | ((first | refine j9 rfl rfl rfl ?_ | refine q10 rfl rfl rfl ?_); simp (maxSteps := 2000000) (disch := omega) only [go_sem, seval, hd, cb, ruleD, r0', r1]; (first | refine ⟨_, hc, ?_⟩)) | ((first | refine x7 [] rfl ?_ | refine j7 [] rfl ?_); simp (maxSteps := 2000000) (disch := omega) only [go_sem, seval, hd, cb, ruleD, r0', r1]; (repeat (first | refine ⟨by omega, ?_⟩ | refine ⟨True.intro, ?_⟩)))))
    · refine ⟨⟨i + 1, by omega, he⟩, by simp only []; omega, ?_⟩
      refine Weak.list ?_ ?_; (all_goals simp (disch := omega) only [AllF, AllL, x10, j10, z10, exists_eq_left', Option.some.injEq, go_sem, seval, hd, cb, ruleD, r0', r1]); (all_goals (repeat' (with_reducible apply And.intro))); (all_goals try (first | exact z6 rfl | (refine q11 ?_; omega) | (refine z6 ?_; simp; done)))
    · refine x9 ⟨_, ?_, rfl⟩; rw [Try.results15]; simp (disch := omega) only [ResVars, ResVar, ptrLoc, go_sem, seval, hd, cb, ruleD, r0', r1]
      rw [← he]
      exact ⟨rfl, rfl⟩
  · have : i = l.length := by omega
    subst this
    rw [← hol, List.drop_length] at he
    unfold findO at he
    (repeat (first | refine j0 ?_ | refine q7 rfl ?_ | refine z7 rfl ?_ | refine x6 ?_ | (refine z2 fun K hK => ?_) | (refine x4 (by kernel_rfl) (by kernel_rfl) fun K hK => ?_) | ((first | refine j5 ?_ | refine q6 ?_ | ((first | refine z1 (hK _ ?_) | refine q5 (hK _ _ (j4 (by kernel_rfl)) ?_)); clear hK K)); (first | show AWP _ _ _ _ _ | ((try simp only [q8]); first | show loopQ _ _ _ _ _ _ | show cutQ _ _ _ _ | show AWP _ _ _ _ _))) | ((first | refine x7 [] rfl ?_ | refine j7 [] rfl ?_); simp (maxSteps := 2000000) (disch := omega) only [go_sem, seval, hd, cb, ruleD]; (repeat (first | refine ⟨by omega, ?_⟩ | refine ⟨True.intro, ?_⟩)))))
    refine x9 ⟨_, ?_, rfl⟩; rw [Try.results15]; simp (disch := omega) only [ResVars, ResVar, ptrLoc, go_sem, seval, hd, cb, ruleD]
    rw [← he]
    exact ⟨rfl, rfl⟩
theorem soundR1_c (r : Rule) : ACalls Try.prog 93 [.agg (ruleD r)] (· = [.d (.v (.bool (!r.mt.sound)))]) := by
  have k := Sound_c r.mt
  unfold cb at k
  unfold ruleD
  refine z11 Try.func93 rfl (by decide +kernel) (by rw [Try.ntmps93]; simp) ?_; rw [Try.ntmps93]; simp only [frOf]
  (repeat (first | refine j0 ?_ | refine q7 rfl ?_ | refine z7 rfl ?_ | refine x6 ?_ | (refine z2 fun K hK => ?_) | (refine x4 (by kernel_rfl) (by kernel_rfl) fun K hK => ?_) | ((first | refine j5 ?_ | refine q6 ?_ | ((first | refine z1 (hK _ ?_) | refine q5 (hK _ _ (j4 (by kernel_rfl)) ?_)); clear hK K)); (first | show AWP _ _ _ _ _ | ((try simp only [q8]); first | show loopQ _ _ _ _ _ _ | show cutQ _ _ _ _ | show AWP _ _ _ _ _))) | ((first | refine j9 rfl rfl rfl ?_ | refine q10 rfl rfl rfl ?_); simp (maxSteps := 2000000) (disch := omega) only [go_sem, seval, hd, cb, ruleD]; (first | refine ⟨_, k, ?_⟩)) | ((first | refine x7 [] rfl ?_ | refine j7 [] rfl ?_); simp (maxSteps := 2000000) (disch := omega) only [go_sem, seval, hd, cb, ruleD]; (repeat (first | refine ⟨by omega, ?_⟩ | refine ⟨True.intro, ?_⟩)))))
  refine x9 ⟨_, ?_, rfl⟩; rw [Try.results93]; simp (disch := omega) only [ResVars, ResVar, ptrLoc, go_sem, seval, hd, cb, ruleD]
def soundL (l : List Rule) : Bool := l.all fun r => r.mt.sound
theorem soundL_c (l : List Rule) (hl : l.length ≤ 1099511627776) : ACalls Try.prog 67 [.d (.sl 12 l.length (rowR l))] (· = [.d (.v (.bool (soundL l)))]) := by
  have k := ContainsR_c 93 [] (fun r => !r.mt.sound) l (by omega) (fun k _ => soundR1_c k)
  have e : (!l.any fun r => !r.mt.sound) = soundL l := by unfold soundL; rw [List.all_eq_not_any_not]
  refine z11 Try.func67 rfl (by decide +kernel) (by rw [Try.ntmps67]; simp) ?_; rw [Try.ntmps67]; simp only [frOf]
  (repeat (first | refine j0 ?_ | refine q7 rfl ?_ | refine z7 rfl ?_ | refine x6 ?_ | (refine z2 fun K hK => ?_) | (refine x4 (by kernel_rfl) (by kernel_rfl) fun K hK => ?_) | ((first | refine j5 ?_ | refine q6 ?_ | ((first | refine z1 (hK _ ?_) | refine q5 (hK _ _ (j4 (by kernel_rfl)) ?_)); clear hK K)); (first | show AWP _ _ _ _ _ | ((try simp only [q8]); first | show loopQ _ _ _ _ _ _ | show cutQ _ _ _ _ | show AWP _ _ _ _ _))) | ((first | refine j9 rfl rfl rfl ?_ | refine q10 rfl rfl rfl ?_); simp (maxSteps := 2000000) (disch := omega) only [go_sem, seval, hd, cb, ruleD]; (first | refine ⟨_, k, ?_⟩)) | ((first | refine x7 [] rfl ?_ | refine j7 [] rfl ?_); simp (maxSteps := 2000000) (disch := omega) only [go_sem, seval, hd, cb, ruleD]; (repeat (first | refine ⟨by omega, ?_⟩ | refine ⟨True.intro, ?_⟩)))))
  refine x9 ⟨_, ?_, rfl⟩; rw [Try.results67]; simp (disch := omega) only [ResVars, ResVar, ptrLoc, go_sem, seval, hd, cb, ruleD]
  rw [e]
end Go.Proofs.Ytbiildleaelodaa
set_option linter.unusedSimpArgs false
set_option linter.unusedVariables false
namespace Go.Proofs.Ytbiildleaelodaa
open Go.Proofs.Ytbiildleaelodaa.AL Go.RowKit
end Go.Proofs.Ytbiildleaelodaa
set_option linter.unusedSimpArgs false
set_option linter.unusedVariables false
namespace Go.Proofs.Ytbiildleaelodaa
open Go.Proofs.Ytbiildleaelodaa.AL
end Go.Proofs.Ytbiildleaelodaa
set_option linter.unusedSimpArgs false
set_option linter.unusedVariables false
namespace Go.Proofs.Ytbiildleaelodaa
open Go.Proofs.Ytbiildleaelodaa.AL
def bitsI (x : BitVec 128) (i : Fin 129) : ASt := ⟨[(4, .p (.d (.v (.int .i64 (i.val : Int))))), (3, .loc 3 0), (2, .loc 2 0), (1, .p (.d (.bx (hd x))))],
  [(3, .arr 99 128 fun j => .v (.bool (decide (j < i.val) && x.getLsbD j))), (2, .arr 99 128 fun _ => .v (.bool false))]⟩
theorem Bits_c (x : BitVec 128) : ACalls Try.prog 46 [.agg (hd x)] (· = [.arr 128 fun i => .v (.bool (x.getLsbD i))]) := by
  refine z11 Try.func46 rfl (by decide +kernel) (by rw [Try.ntmps46]; simp) ?_; rw [Try.ntmps46]; simp only [frOf]
  (repeat refine j0 ?_); (first | refine z2 fun K hK => ?_ | refine x4 (by kernel_rfl) (by kernel_rfl) fun K hK => ?_); (first | refine z8 [] _ _ ?_ | refine x8 [] _ _ _ ?_); simp (maxSteps := 2000000) (disch := omega) only [go_sem, ↓reduceIte, reduceCtorEq, Nat.reduceLT, Nat.reducePow, Nat.reduceLeDiff, Nat.reduceAdd, Nat.reduceMul, Nat.reduceSub, Nat.reduceEqDiff, Nat.reduceBEq, Int.reduceToNat, Int.reduceBEq, Int.reduceBNe, hd, cb]; (repeat refine ⟨by omega, ?_⟩); (first | (refine z1 (hK _ ?_); clear hK K; show AWP _ _ _ _ _) | (refine q5 (hK _ _ (j4 (by kernel_rfl)) ?_); clear hK K; show AWP _ _ _ _ _))
  (repeat refine j0 ?_); (first | refine z2 fun K hK => ?_ | refine x4 (by kernel_rfl) (by kernel_rfl) fun K hK => ?_); (first | refine z8 [] _ _ ?_ | refine x8 [] _ _ _ ?_); simp (maxSteps := 2000000) (disch := omega) only [go_sem, ↓reduceIte, reduceCtorEq, Nat.reduceLT, Nat.reducePow, Nat.reduceLeDiff, Nat.reduceAdd, Nat.reduceMul, Nat.reduceSub, Nat.reduceEqDiff, Nat.reduceBEq, Int.reduceToNat, Int.reduceBEq, Int.reduceBNe, hd, cb]; (repeat refine ⟨by omega, ?_⟩); (first | (refine z1 (hK _ ?_); clear hK K; show AWP _ _ _ _ _) | (refine q5 (hK _ _ (j4 (by kernel_rfl)) ?_); clear hK K; show AWP _ _ _ _ _))
  (repeat refine j0 ?_); (first | refine z2 fun K hK => ?_ | refine x4 (by kernel_rfl) (by kernel_rfl) fun K hK => ?_); (first | refine z8 [] _ _ ?_ | refine x8 [] _ _ _ ?_); simp (maxSteps := 2000000) (disch := omega) only [go_sem, ↓reduceIte, reduceCtorEq, Nat.reduceLT, Nat.reducePow, Nat.reduceLeDiff, Nat.reduceAdd, Nat.reduceMul, Nat.reduceSub, Nat.reduceEqDiff, Nat.reduceBEq, Int.reduceToNat, Int.reduceBEq, Int.reduceBNe, hd, cb]; (repeat refine ⟨by omega, ?_⟩); (first | (refine z1 (hK _ ?_); clear hK K; show AWP _ _ _ _ _) | (refine q5 (hK _ _ (j4 (by kernel_rfl)) ?_); clear hK K; show AWP _ _ _ _ _))
  refine x6 (awp_loop (bitsI x) (fun i => 128 - i.val) ⟨0, by omega⟩ ?_ (fun i => ?_))
  · unfold bitsI
    refine Weak.list ?_ ?_; (all_goals simp (disch := omega) only [AllF, AllL, x10, j10, z10, exists_eq_left', Option.some.injEq, go_sem, ↓reduceIte, reduceCtorEq, Nat.reduceLT, Nat.reducePow, Nat.reduceLeDiff, Nat.reduceAdd, Nat.reduceMul, Nat.reduceSub, Nat.reduceEqDiff, Nat.reduceBEq, Int.reduceToNat, Int.reduceBEq, Int.reduceBNe, hd, cb]); (all_goals (repeat' (with_reducible apply And.intro))); (all_goals try (first | exact z6 rfl | (refine q11 ?_; omega) | (refine z6 ?_; simp; done)))
    exact ⟨rfl, rfl, fun i _ => by simp⟩
  unfold bitsI
  by_cases hn : i.val < 128
  · (repeat refine j0 ?_); (first | refine z2 fun K hK => ?_ | refine x4 (by kernel_rfl) (by kernel_rfl) fun K hK => ?_); (first | refine z8 [] _ _ ?_ | refine x8 [] _ _ _ ?_); simp (maxSteps := 2000000) (disch := omega) only [go_sem, ↓reduceIte, reduceCtorEq, Nat.reduceLT, Nat.reducePow, Nat.reduceLeDiff, Nat.reduceAdd, Nat.reduceMul, Nat.reduceSub, Nat.reduceEqDiff, Nat.reduceBEq, Int.reduceToNat, Int.reduceBEq, Int.reduceBNe, hd, cb]; (repeat refine ⟨by omega, ?_⟩); (first | (refine z1 (hK _ ?_); clear hK K; show AWP _ _ _ _ _) | (refine q5 (hK _ _ (j4 (by kernel_rfl)) ?_); clear hK K; show AWP _ _ _ _ _))
    (repeat refine j0 ?_); refine awp_cond rfl (fun _ => ?_) (fun ht => absurd ht (by decide))
    refine j5 ?_; show AWP _ _ _ _ _
    refine j0 (x6 ?_)
    (repeat refine j0 ?_); (first | refine z2 fun K hK => ?_ | refine x4 (by kernel_rfl) (by kernel_rfl) fun K hK => ?_); (first | refine z8 [] _ _ ?_ | refine x8 [] _ _ _ ?_); simp (maxSteps := 2000000) (disch := omega) only [go_sem, ↓reduceIte, reduceCtorEq, Nat.reduceLT, Nat.reducePow, Nat.reduceLeDiff, Nat.reduceAdd, Nat.reduceMul, Nat.reduceSub, Nat.reduceEqDiff, Nat.reduceBEq, Int.reduceToNat, Int.reduceBEq, Int.reduceBNe, hd, cb]; (repeat refine ⟨by omega, ?_⟩); (first | (refine z1 (hK _ ?_); clear hK K; show AWP _ _ _ _ _) | (refine q5 (hK _ _ (j4 (by kernel_rfl)) ?_); clear hK K; show AWP _ _ _ _ _))
    by_cases h6 : i.val < 64
    · refine awp_cond rfl (fun _ => ?_) (fun ht => by simp at ht; omega)
      (repeat refine j0 ?_); (first | refine z2 fun K hK => ?_ | refine x4 (by kernel_rfl) (by kernel_rfl) fun K hK => ?_); (first | refine z8 [] _ _ ?_ | refine x8 [] _ _ _ ?_); simp (maxSteps := 2000000) (disch := omega) only [go_sem, ↓reduceIte, reduceCtorEq, Nat.reduceLT, Nat.reducePow, Nat.reduceLeDiff, Nat.reduceAdd, Nat.reduceMul, Nat.reduceSub, Nat.reduceEqDiff, Nat.reduceBEq, Int.reduceToNat, Int.reduceBEq, Int.reduceBNe, hd, cb]; (repeat refine ⟨by omega, ?_⟩); (first | (refine z1 (hK _ ?_); clear hK K; show AWP _ _ _ _ _) | (refine q5 (hK _ _ (j4 (by kernel_rfl)) ?_); clear hK K; show AWP _ _ _ _ _))
      (repeat refine j0 ?_); (first | refine z2 fun K hK => ?_ | refine x4 (by kernel_rfl) (by kernel_rfl) fun K hK => ?_)
      (first | refine z8 [] _ _ ?_ | refine x8 [] _ _ _ ?_); simp (maxSteps := 2000000) (disch := omega) only [go_sem, ↓reduceIte, reduceCtorEq, Nat.reduceLT, Nat.reducePow, Nat.reduceLeDiff, Nat.reduceAdd, Nat.reduceMul, Nat.reduceSub, Nat.reduceEqDiff, Nat.reduceBEq, Int.reduceToNat, Int.reduceBEq, Int.reduceBNe, hd, cb]; (repeat refine ⟨by omega, ?_⟩)
      (first | (refine z1 (hK _ ?_); clear hK K; show loopQ _ _ _ _ _ _) | (refine q5 (hK _ _ (j4 (by kernel_rfl)) ?_); clear hK K; show loopQ _ _ _ _ _ _))
      refine ⟨⟨i.val + 1, by omega⟩, by simp only []; omega, ?_⟩
      refine Weak.list ?_ ?_; (all_goals simp (disch := omega) only [AllF, AllL, x10, j10, z10, exists_eq_left', Option.some.injEq, go_sem, ↓reduceIte, reduceCtorEq, Nat.reduceLT, Nat.reducePow, Nat.reduceLeDiff, Nat.reduceAdd, Nat.reduceMul, Nat.reduceSub, Nat.reduceEqDiff, Nat.reduceBEq, Int.reduceToNat, Int.reduceBEq, Int.reduceBNe, hd, cb]); (all_goals (repeat' (with_reducible apply And.intro))); (all_goals try (first | exact z6 rfl | (refine q11 ?_; omega) | (refine z6 ?_; simp; done)))
      · refine ⟨rfl, rfl, fun j hj => ?_⟩
        simp only [rem_lo x i.val h6]
        split
        · rename_i e; subst e; simp
        · rename_i e; simp; by_cases hlt : j < i.val
          · simp [hlt, show j < i.val + 1 from by omega]
          · simp [hlt, show ¬ j < i.val + 1 from by omega]
    · refine awp_cond rfl (fun ht => by simp at ht; omega) (fun _ => ?_)
      (repeat refine j0 ?_); (first | refine z2 fun K hK => ?_ | refine x4 (by kernel_rfl) (by kernel_rfl) fun K hK => ?_); (first | refine z8 [] _ _ ?_ | refine x8 [] _ _ _ ?_); simp (maxSteps := 2000000) (disch := omega) only [go_sem, ↓reduceIte, reduceCtorEq, Nat.reduceLT, Nat.reducePow, Nat.reduceLeDiff, Nat.reduceAdd, Nat.reduceMul, Nat.reduceSub, Nat.reduceEqDiff, Nat.reduceBEq, Int.reduceToNat, Int.reduceBEq, Int.reduceBNe, hd, cb]; (repeat refine ⟨by omega, ?_⟩); (first | (refine z1 (hK _ ?_); clear hK K; show AWP _ _ _ _ _) | (refine q5 (hK _ _ (j4 (by kernel_rfl)) ?_); clear hK K; show AWP _ _ _ _ _))
      (repeat refine j0 ?_); (first | refine z2 fun K hK => ?_ | refine x4 (by kernel_rfl) (by kernel_rfl) fun K hK => ?_)
      (first | refine z8 [] _ _ ?_ | refine x8 [] _ _ _ ?_); simp (maxSteps := 2000000) (disch := omega) only [go_sem, ↓reduceIte, reduceCtorEq, Nat.reduceLT, Nat.reducePow, Nat.reduceLeDiff, Nat.reduceAdd, Nat.reduceMul, Nat.reduceSub, Nat.reduceEqDiff, Nat.reduceBEq, Int.reduceToNat, Int.reduceBEq, Int.reduceBNe, hd, cb]; (repeat refine ⟨by omega, ?_⟩)
      (first | (refine z1 (hK _ ?_); clear hK K; show loopQ _ _ _ _ _ _) | (refine q5 (hK _ _ (j4 (by kernel_rfl)) ?_); clear hK K; show loopQ _ _ _ _ _ _))
      refine ⟨⟨i.val + 1, by omega⟩, by simp only []; omega, ?_⟩
      refine Weak.list ?_ ?_; (all_goals simp (disch := omega) only [AllF, AllL, x10, j10, z10, exists_eq_left', Option.some.injEq, go_sem, ↓reduceIte, reduceCtorEq, Nat.reduceLT, Nat.reducePow, Nat.reduceLeDiff, Nat.reduceAdd, Nat.reduceMul, Nat.reduceSub, Nat.reduceEqDiff, Nat.reduceBEq, Int.reduceToNat, Int.reduceBEq, Int.reduceBNe, hd, cb]); (all_goals (repeat' (with_reducible apply And.intro))); (all_goals try (first | exact z6 rfl | (refine q11 ?_; omega) | (refine z6 ?_; simp; done)))
      · refine ⟨rfl, rfl, fun j hj => ?_⟩
        simp only [rem_hi x i.val (by omega) hn]
        split
        · rename_i e; subst e; simp
        · rename_i e; simp; by_cases hlt : j < i.val
          · simp [hlt, show j < i.val + 1 from by omega]
          · simp [hlt, show ¬ j < i.val + 1 from by omega]
  · (repeat refine j0 ?_); (first | refine z2 fun K hK => ?_ | refine x4 (by kernel_rfl) (by kernel_rfl) fun K hK => ?_); (first | refine z8 [] _ _ ?_ | refine x8 [] _ _ _ ?_); simp (maxSteps := 2000000) (disch := omega) only [go_sem, ↓reduceIte, reduceCtorEq, Nat.reduceLT, Nat.reducePow, Nat.reduceLeDiff, Nat.reduceAdd, Nat.reduceMul, Nat.reduceSub, Nat.reduceEqDiff, Nat.reduceBEq, Int.reduceToNat, Int.reduceBEq, Int.reduceBNe, hd, cb]; (repeat refine ⟨by omega, ?_⟩); (first | (refine z1 (hK _ ?_); clear hK K; show AWP _ _ _ _ _) | (refine q5 (hK _ _ (j4 (by kernel_rfl)) ?_); clear hK K; show AWP _ _ _ _ _))
    refine awp_cond rfl (fun ht => absurd ht (by decide)) (fun _ => ?_)
    refine q6 ?_
    show AWP _ _ _ _ _
    (repeat refine j0 ?_); (first | refine z2 fun K hK => ?_ | refine x4 (by kernel_rfl) (by kernel_rfl) fun K hK => ?_); (first | refine z8 [] _ _ ?_ | refine x8 [] _ _ _ ?_); simp (maxSteps := 2000000) (disch := omega) only [go_sem, ↓reduceIte, reduceCtorEq, Nat.reduceLT, Nat.reducePow, Nat.reduceLeDiff, Nat.reduceAdd, Nat.reduceMul, Nat.reduceSub, Nat.reduceEqDiff, Nat.reduceBEq, Int.reduceToNat, Int.reduceBEq, Int.reduceBNe, hd, cb]; (repeat refine ⟨by omega, ?_⟩); (first | (refine z1 (hK _ ?_); clear hK K; show AWP _ _ _ _ _) | (refine q5 (hK _ _ (j4 (by kernel_rfl)) ?_); clear hK K; show AWP _ _ _ _ _))
    refine x9 ⟨_, ?_, rfl⟩; rw [Try.results46]; simp (disch := omega) only [ResVars, ResVar, ptrLoc, go_sem, ↓reduceIte, reduceCtorEq, Nat.reduceLT, Nat.reducePow, Nat.reduceLeDiff, Nat.reduceAdd, Nat.reduceMul, Nat.reduceSub, Nat.reduceEqDiff, Nat.reduceBEq, Int.reduceToNat, Int.reduceBEq, Int.reduceBNe, hd, cb]
    simp only [PV.arr.injEq, true_and]
    funext j
    by_cases hlt : j < i.val
    · simp [hlt]
    · simp [hlt, BitVec.getLsbD_of_ge x j (by omega)]
end Go.Proofs.Ytbiildleaelodaa
