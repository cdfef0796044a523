/- Part 4 of a proof: lemmas beneath the theorem that the last text bears. Conditions: none. -/
import Derived.Test.YtbiildleaelodaaKWalkStepsc
import Derived.Shelf.Small.Bits
import Derived.Lib.ItoaNum
import Derived.Shelf.Spec.SlicesGrow
set_option linter.unusedSimpArgs false
set_option linter.unusedVariables false
namespace Go.Proofs.Ytbiildleaelodaa
open Go.Proofs.Ytbiildleaelodaa.AL
theorem pnP2 (a b : Nat) : ((a : Int) + (b : Int) + 1).toNat = a + b + 1 := by omega
def sdI (key : Nat → Int) (x : Nat → Nat) (n gen lo hi f : Nat) (g : FuncId) (o : PV) (s : {s : Nat × (Nat → Nat) // lo ≤ s.1 ∧ s.1 ≤ hi ∧ PE (f + lo) (f + hi) x s.2 ∧ HpX key f s.2 lo hi s.1}) : ASt :=
  ⟨[(10, .p (.d (.v (.int .i64 (s.val.1 : Int))))), (4, .p (.fn (.func g) [o] [])), (3, .p (.d (.v (.int .i64 (f : Int))))), (2, .p (.d (.v (.int .i64 (hi : Int))))), (0, .ow 1000 gen 1 n)],
   [(1000, .own 3 1 n gen (rowN s.val.2))]⟩
def sdC (n gen hi f : Nat) (g : FuncId) (o : PV) (y : Nat → Nat) (r c : Nat) : ASt :=
  ⟨[(11, .p (.d (.v (.int .i64 (c : Int))))), (10, .p (.d (.v (.int .i64 (r : Int))))), (4, .p (.fn (.func g) [o] [])), (3, .p (.d (.v (.int .i64 (f : Int))))), (2, .p (.d (.v (.int .i64 (hi : Int))))), (0, .ow 1000 gen 1 n)],
   [(1000, .own 3 1 n gen (rowN y))]⟩
set_option maxRecDepth 100000 in
set_option maxHeartbeats 2000000 in
theorem sift_c {key : Nat → Int} {c : Nat → Nat → Int} {g : FuncId} {o : PV} {N : Nat} (hc : CmpN Try.prog g o N key c) (x : Nat → Nat) (n gen lo hi f : Nat) (loi hii fi : Int) (h1' : loi = lo) (h2' : hii = hi) (h3' : fi = f) (hlh : lo ≤ hi) (hb : f + hi ≤ n) (hn : n ≤ 1099511627776) (hx : Dom n N x) (hp : Hp key f x (lo + 1) hi) :
    MCalls Try.prog 130 [.ow 1000 gen 1 n, .p (.d (.v (.int .i64 loi))), .p (.d (.v (.int .i64 hii))), .p (.d (.v (.int .i64 fi))), .p (.fn (.func g) [o] [])] [(1000, .own 3 1 n gen (rowN x))]
      (fun rs M => ∃ y : {y : Nat → Nat // PE (f + lo) (f + hi) x y ∧ Hp key f y lo hi}, rs = [] ∧ M = [(1000, .own 3 1 n gen (rowN y.val))]) := by
  subst h1' h2' h3'
  refine mcalls_of_awp Try.func130 rfl (by decide +kernel) (by rw [Try.ntmps130]; simp) (fun l X h => by simp only [AL.look] at h; (repeat' split at h); all_goals first | omega | cases h) ?_; rw [Try.ntmps130]; simp only [frA]
  (repeat (first | refine j0 ?_ | refine q7 rfl ?_ | refine z7 rfl ?_ | refine j6 ?_ | (refine j4 fun K hK => ?_) | (refine x5 (by kernel_rfl) (by kernel_rfl) fun K hK => ?_) | ((first | refine z6 ?_ | refine x6 ?_ | ((first | refine z2 (hK _ ?_) | refine q6 (hK _ _ (j5 (by kernel_rfl)) ?_)); clear hK K)); (first | show AWP _ _ _ _ _ | ((try simp only [q8]); first | show loopQ _ _ _ _ _ _ | show cutQ _ _ _ _ | show AWP _ _ _ _ _))) | ((first | refine x7 [] rfl ?_ | refine j7 [] rfl ?_); simp (maxSteps := 2000000) (disch := omega) only [go_sem, seval, pnP, pnM, pnP1, pnM1, pnP2]; (repeat (first | refine ⟨by omega, ?_⟩ | refine ⟨True.intro, ?_⟩)))))
  refine awp_loop (sdI key x n gen lo hi f g o) (fun s => hi - s.val.1) ⟨(lo, x), Nat.le_refl _, hlh, PE.refl _ _ _, HpX.start hp⟩ ?_ (fun s => ?_)
  · unfold sdI
    refine Weak.list ?_ ?_; (all_goals simp (disch := omega) only [AllF, AllL, q9, x9, j8, exists_eq_left', Option.some.injEq, go_sem, seval, pnP, pnM, pnP1, pnM1, pnP2]); (all_goals (repeat' (with_reducible apply And.intro))); (all_goals try (first | exact z8 rfl | (refine j9 ?_; omega) | (refine z8 ?_; simp; done)))
  obtain ⟨⟨r, y⟩, hr, hr2, hpe, hh⟩ := s
  unfold sdI
  simp only [] at hr hr2 hpe hh
  have dy := hx.pe hpe (by omega) hb
  by_cases hch : 2 * r + 1 < hi
  · (repeat ((fail_if_success (show AWP _ _ (.region 3 _ _) _ _)); first | refine j0 ?_ | refine q7 rfl ?_ | refine z7 rfl ?_ | refine j6 ?_ | (refine j4 fun K hK => ?_) | (refine x5 (by kernel_rfl) (by kernel_rfl) fun K hK => ?_) | ((first | refine z6 ?_ | refine x6 ?_ | ((first | refine z2 (hK _ ?_) | refine q6 (hK _ _ (j5 (by kernel_rfl)) ?_)); clear hK K)); (first | show AWP _ _ _ _ _ | ((try simp only [q8]); first | show loopQ _ _ _ _ _ _ | show cutQ _ _ _ _ | show AWP _ _ _ _ _))) | ((first | refine x7 [] rfl ?_ | refine j7 [] rfl ?_); simp (maxSteps := 2000000) (disch := omega) only [go_sem, seval, pnP, pnM, pnP1, pnM1, pnP2]; (repeat (first | refine ⟨by omega, ?_⟩ | refine ⟨True.intro, ?_⟩)))))
    refine awp_weak (A' := sdC n gen hi f g o y r (2 * r + 1)) ?_ ?_
    · unfold sdC
      refine Weak.list ?_ ?_; (all_goals simp (disch := omega) only [AllF, AllL, q9, x9, j8, exists_eq_left', Option.some.injEq, go_sem, seval, pnP, pnM, pnP1, pnM1, pnP2]); (all_goals (repeat' (with_reducible apply And.intro))); (all_goals try (first | exact z8 rfl | (refine j9 ?_; omega) | (refine z8 ?_; simp; done)))
    refine awp_mid (fun d : {d : Nat // (d = 2 * r + 1 ∨ d = 2 * r + 2) ∧ d < hi ∧ ∀ e, (e = 2 * r + 1 ∨ e = 2 * r + 2) → e < hi → key (y (f + e)) ≤ key (y (f + d))} => sdC n gen hi f g o y r d.val) ?_ ?_
    · unfold sdC
      by_cases h2 : 2 * r + 1 + 1 < hi
      · have r1 := rowN_at y (f + (2 * r + 1))
        have r2 := rowN_at y (f + (2 * r + 1) + 1)
        have cc := hc.call (y (f + (2 * r + 1))) (y (f + (2 * r + 1) + 1)) (dy.lt _ (by omega)) (dy.lt _ (by omega))
        have cl := hc.lt (y (f + (2 * r + 1))) (y (f + (2 * r + 1) + 1)) (dy.lt _ (by omega)) (dy.lt _ (by omega))
        generalize hd : 2 * r + 1 = d at *
        generalize c (y (f + d)) (y (f + d + 1)) = c0 at cc cl
        by_cases hlt : c0 < 0
        · (repeat (first | refine j0 ?_ | refine q7 rfl ?_ | refine z7 rfl ?_ | refine j6 ?_ | (refine j4 fun K hK => ?_) | (refine x5 (by kernel_rfl) (by kernel_rfl) fun K hK => ?_) | ((first | refine z6 ?_ | refine x6 ?_ | ((first | refine z2 (hK _ ?_) | refine q6 (hK _ _ (j5 (by kernel_rfl)) ?_)); clear hK K)); (first | show AWP _ _ _ _ _ | ((try simp only [q8]); first | show loopQ _ _ _ _ _ _ | show cutQ _ _ _ _ | show AWP _ _ _ _ _))) | ((first | refine q10 rfl rfl rfl ?_ | refine z10 rfl rfl rfl ?_); simp (maxSteps := 2000000) (disch := omega) only [go_sem, seval, pnP, pnM, pnP1, pnM1, pnP2, r1, r2]; (first | refine ⟨_, cc, ?_⟩)) | ((first | refine x7 [] rfl ?_ | refine j7 [] rfl ?_); simp (maxSteps := 2000000) (disch := omega) only [go_sem, seval, pnP, pnM, pnP1, pnM1, pnP2, r1, r2]; (repeat (first | refine ⟨by omega, ?_⟩ | refine ⟨True.intro, ?_⟩)))))
          (show cutQ _ _ .normal _); refine cut_n (⟨d + 1, by omega, by omega, fun e he he2 => ?_⟩) ?_
          · have := cl.1 hlt
            rcases he with rfl | rfl
            · subst hd; rw [show f + (2 * r + 1 + 1) = f + (2 * r + 1) + 1 by omega]; omega
            · rw [show 2 * r + 2 = d + 1 by omega]; exact Int.le_refl _
          · refine Weak.list ?_ ?_; (all_goals simp (disch := omega) only [AllF, AllL, q9, x9, j8, exists_eq_left', Option.some.injEq, go_sem, seval, pnP, pnM, pnP1, pnM1, pnP2, r1, r2]); (all_goals (repeat' (with_reducible apply And.intro))); (all_goals try (first | exact z8 rfl | (refine j9 ?_; omega) | (refine z8 ?_; simp; done)))
        · (repeat (first | refine j0 ?_ | refine q7 rfl ?_ | refine z7 rfl ?_ | refine j6 ?_ | (refine j4 fun K hK => ?_) | (refine x5 (by kernel_rfl) (by kernel_rfl) fun K hK => ?_) | ((first | refine z6 ?_ | refine x6 ?_ | ((first | refine z2 (hK _ ?_) | refine q6 (hK _ _ (j5 (by kernel_rfl)) ?_)); clear hK K)); (first | show AWP _ _ _ _ _ | ((try simp only [q8]); first | show loopQ _ _ _ _ _ _ | show cutQ _ _ _ _ | show AWP _ _ _ _ _))) | ((first | refine q10 rfl rfl rfl ?_ | refine z10 rfl rfl rfl ?_); simp (maxSteps := 2000000) (disch := omega) only [go_sem, seval, pnP, pnM, pnP1, pnM1, pnP2, r1, r2]; (first | refine ⟨_, cc, ?_⟩)) | ((first | refine x7 [] rfl ?_ | refine j7 [] rfl ?_); simp (maxSteps := 2000000) (disch := omega) only [go_sem, seval, pnP, pnM, pnP1, pnM1, pnP2, r1, r2]; (repeat (first | refine ⟨by omega, ?_⟩ | refine ⟨True.intro, ?_⟩)))))
          (show cutQ _ _ .normal _); refine cut_n (⟨d, by omega, by omega, fun e he he2 => ?_⟩) ?_
          · have : ¬ key (y (f + d)) < key (y (f + d + 1)) := fun h => hlt (cl.2 h)
            rcases he with rfl | rfl
            · subst hd; exact Int.le_refl _
            · rw [show f + (2 * r + 2) = f + d + 1 by omega]; omega
          · refine Weak.list ?_ ?_; (all_goals simp (disch := omega) only [AllF, AllL, q9, x9, j8, exists_eq_left', Option.some.injEq, go_sem, seval, pnP, pnM, pnP1, pnM1, pnP2, r1, r2]); (all_goals (repeat' (with_reducible apply And.intro))); (all_goals try (first | exact z8 rfl | (refine j9 ?_; omega) | (refine z8 ?_; simp; done)))
      · generalize hd : 2 * r + 1 = d at *
        (repeat (first | refine j0 ?_ | refine q7 rfl ?_ | refine z7 rfl ?_ | refine j6 ?_ | (refine j4 fun K hK => ?_) | (refine x5 (by kernel_rfl) (by kernel_rfl) fun K hK => ?_) | ((first | refine z6 ?_ | refine x6 ?_ | ((first | refine z2 (hK _ ?_) | refine q6 (hK _ _ (j5 (by kernel_rfl)) ?_)); clear hK K)); (first | show AWP _ _ _ _ _ | ((try simp only [q8]); first | show loopQ _ _ _ _ _ _ | show cutQ _ _ _ _ | show AWP _ _ _ _ _))) | ((first | refine x7 [] rfl ?_ | refine j7 [] rfl ?_); simp (maxSteps := 2000000) (disch := omega) only [go_sem, seval, pnP, pnM, pnP1, pnM1, pnP2]; (repeat (first | refine ⟨by omega, ?_⟩ | refine ⟨True.intro, ?_⟩)))))
        (show cutQ _ _ .normal _); refine cut_n (⟨d, by omega, by omega, fun e he he2 => ?_⟩) ?_
        · rw [show e = d by omega]; exact Int.le_refl _
        · refine Weak.list ?_ ?_; (all_goals simp (disch := omega) only [AllF, AllL, q9, x9, j8, exists_eq_left', Option.some.injEq, go_sem, seval, pnP, pnM, pnP1, pnM1, pnP2]); (all_goals (repeat' (with_reducible apply And.intro))); (all_goals try (first | exact z8 rfl | (refine j9 ?_; omega) | (refine z8 ?_; simp; done)))
    · rintro ⟨d, hd, hd2, hd3⟩
      unfold sdC
      have r1 := rowN_at y (f + r)
      have r2 := rowN_at y (f + d)
      have cc := hc.call (y (f + r)) (y (f + d)) (dy.lt _ (by omega)) (dy.lt _ (by omega))
      have cl := hc.lt (y (f + r)) (y (f + d)) (dy.lt _ (by omega)) (dy.lt _ (by omega))
      generalize c (y (f + r)) (y (f + d)) = c0 at cc cl
      by_cases hlt : c0 < 0
      · (repeat (first | refine j0 ?_ | refine q7 rfl ?_ | refine z7 rfl ?_ | refine j6 ?_ | (refine j4 fun K hK => ?_) | (refine x5 (by kernel_rfl) (by kernel_rfl) fun K hK => ?_) | ((first | refine z6 ?_ | refine x6 ?_ | ((first | refine z2 (hK _ ?_) | refine q6 (hK _ _ (j5 (by kernel_rfl)) ?_)); clear hK K)); (first | show AWP _ _ _ _ _ | ((try simp only [q8]); first | show loopQ _ _ _ _ _ _ | show cutQ _ _ _ _ | show AWP _ _ _ _ _))) | ((first | refine q10 rfl rfl rfl ?_ | refine z10 rfl rfl rfl ?_); simp (maxSteps := 2000000) (disch := omega) only [go_sem, seval, pnP, pnM, pnP1, pnM1, pnP2, r1, r2]; (first | refine ⟨_, cc, ?_⟩)) | ((first | refine x7 [] rfl ?_ | refine j7 [] rfl ?_); simp (maxSteps := 2000000) (disch := omega) only [go_sem, seval, pnP, pnM, pnP1, pnM1, pnP2, r1, r2]; (repeat (first | refine ⟨by omega, ?_⟩ | refine ⟨True.intro, ?_⟩)))))
        refine ⟨⟨(d, swp y (f + r) (f + d)), by simp only []; omega, by simp only []; omega, hpe.trans (PE.swp (by omega) (by omega) (by omega) (by omega)), hh.step hr hd hd2 (by have := cl.1 hlt; omega) hd3⟩, by simp only []; omega, ?_⟩
        refine Weak.list ?_ ?_; (all_goals simp (disch := omega) only [AllF, AllL, q9, x9, j8, exists_eq_left', Option.some.injEq, go_sem, seval, pnP, pnM, pnP1, pnM1, pnP2, r1, r2]); (all_goals (repeat' (with_reducible apply And.intro))); (all_goals try (first | exact z8 rfl | (refine j9 ?_; omega) | (refine z8 ?_; simp; done)))
        exact lle_own rfl rfl (fun k _ => putN_two y (f + r) (f + d) k)
      · (repeat (first | refine j0 ?_ | refine q7 rfl ?_ | refine z7 rfl ?_ | refine j6 ?_ | (refine j4 fun K hK => ?_) | (refine x5 (by kernel_rfl) (by kernel_rfl) fun K hK => ?_) | ((first | refine z6 ?_ | refine x6 ?_ | ((first | refine z2 (hK _ ?_) | refine q6 (hK _ _ (j5 (by kernel_rfl)) ?_)); clear hK K)); (first | show AWP _ _ _ _ _ | ((try simp only [q8]); first | show loopQ _ _ _ _ _ _ | show cutQ _ _ _ _ | show AWP _ _ _ _ _))) | ((first | refine q10 rfl rfl rfl ?_ | refine z10 rfl rfl rfl ?_); simp (maxSteps := 2000000) (disch := omega) only [go_sem, seval, pnP, pnM, pnP1, pnM1, pnP2, r1, r2]; (first | refine ⟨_, cc, ?_⟩)) | ((first | refine x7 [] rfl ?_ | refine j7 [] rfl ?_); simp (maxSteps := 2000000) (disch := omega) only [go_sem, seval, pnP, pnM, pnP1, pnM1, pnP2, r1, r2]; (repeat (first | refine ⟨by omega, ?_⟩ | refine ⟨True.intro, ?_⟩)))))
        (first | (refine z2 (hK _ ?_); refine And.left (retM_void (l := 1000) rfl rfl ?_)) | (refine x6 ?_; refine And.left (retM_void (l := 1000) rfl rfl ?_)) | (refine z6 ?_; refine And.left (retM_void (l := 1000) rfl rfl ?_)) | (refine x8 ?_; refine And.right (retM_void (l := 1000) rfl rfl ?_)) | refine And.left (retM_void (l := 1000) rfl rfl ?_))
        refine ⟨⟨y, hpe, hh.done fun e he he2 => ?_⟩, rfl, rfl⟩
        have : ¬ key (y (f + r)) < key (y (f + d)) := fun h => hlt (cl.2 h)
        have := hd3 e he he2
        omega
  · (repeat (first | refine j0 ?_ | refine q7 rfl ?_ | refine z7 rfl ?_ | refine j6 ?_ | (refine j4 fun K hK => ?_) | (refine x5 (by kernel_rfl) (by kernel_rfl) fun K hK => ?_) | ((first | refine z6 ?_ | refine x6 ?_ | ((first | refine z2 (hK _ ?_) | refine q6 (hK _ _ (j5 (by kernel_rfl)) ?_)); clear hK K)); (first | show AWP _ _ _ _ _ | ((try simp only [q8]); first | show loopQ _ _ _ _ _ _ | show cutQ _ _ _ _ | show AWP _ _ _ _ _))) | ((first | refine x7 [] rfl ?_ | refine j7 [] rfl ?_); simp (maxSteps := 2000000) (disch := omega) only [go_sem, seval, pnP, pnM, pnP1, pnM1, pnP2]; (repeat (first | refine ⟨by omega, ?_⟩ | refine ⟨True.intro, ?_⟩)))))
    (first | (refine z2 (hK _ ?_); refine And.left (retM_void (l := 1000) rfl rfl ?_)) | (refine x6 ?_; refine And.left (retM_void (l := 1000) rfl rfl ?_)) | (refine z6 ?_; refine And.left (retM_void (l := 1000) rfl rfl ?_)) | (refine x8 ?_; refine And.right (retM_void (l := 1000) rfl rfl ?_)) | refine And.left (retM_void (l := 1000) rfl rfl ?_))
    exact ⟨⟨y, hpe, hh.done fun e he he2 => by omega⟩, rfl, rfl⟩
def hsA (key : Nat → Int) (x : Nat → Nat) (n gen a b : Nat) (g : FuncId) (o : PV) (s : {s : Nat × (Nat → Nat) // s.1 ≤ b - a ∧ PE a b x s.2 ∧ Hp key a s.2 s.1 (b - a)}) : ASt :=
  ⟨[(11, .p (.d (.v (.int .i64 ((s.val.1 : Int) - 1))))), (10, .p (.d (.v (.int .i64 ((b - a : Nat) : Int))))), (9, .p (.d (.v (.int .i64 0)))), (8, .p (.d (.v (.int .i64 (a : Int))))), (3, .p (.fn (.func g) [o] [])), (0, .ow 1000 gen 1 n)],
   [(1000, .own 3 1 n gen (rowN s.val.2))]⟩
def hsB (key : Nat → Int) (x : Nat → Nat) (n gen a b : Nat) (g : FuncId) (o : PV) (s : {s : Nat × (Nat → Nat) // s.1 ≤ b - a ∧ PE a b x s.2 ∧ HS key a b s.1 s.2}) : ASt :=
  ⟨[(12, .p (.d (.v (.int .i64 ((s.val.1 : Int) - 1))))), (9, .p (.d (.v (.int .i64 0)))), (8, .p (.d (.v (.int .i64 (a : Int))))), (3, .p (.fn (.func g) [o] [])), (0, .ow 1000 gen 1 n)],
   [(1000, .own 3 1 n gen (rowN s.val.2))]⟩
theorem hs_half (d : Nat) : ((d : Int) - 1).tdiv 2 = (((d + 1) / 2 : Nat) : Int) - 1 ∨ d = 0 := by
  by_cases h : d = 0
  · exact .inr h
  · left
    obtain ⟨e, rfl⟩ : ∃ e, d = e + 1 := ⟨d - 1, by omega⟩
    rw [show ((e + 1 : Nat) : Int) - 1 = (e : Int) by omega, Int.tdiv_eq_ediv_of_nonneg (by omega)]
    omega
set_option maxRecDepth 100000 in
set_option maxHeartbeats 2000000 in
theorem heapN_c {key : Nat → Int} {c : Nat → Nat → Int} {g : FuncId} {o : PV} {N : Nat} (hc : CmpN Try.prog g o N key c) (x : Nat → Nat) (n gen a b : Nat) (ai bi : Int) (ha' : ai = a) (hb' : bi = b) (hab : a < b) (hb : b ≤ n) (hn : n ≤ 1099511627776) (hx : Dom n N x) :
    MCalls Try.prog 111 [.ow 1000 gen 1 n, .p (.d (.v (.int .i64 ai))), .p (.d (.v (.int .i64 bi))), .p (.fn (.func g) [o] [])] [(1000, .own 3 1 n gen (rowN x))]
      (fun rs M => ∃ y : {y : Nat → Nat // PE a b x y ∧ Srt key a b y}, rs = [] ∧ M = [(1000, .own 3 1 n gen (rowN y.val))]) := by
  subst ha' hb'
  have hhalf := hs_half (b - a)
  rw [show ((b - a : Nat) : Int) = (b : Int) - a by omega] at hhalf
  have hh := hhalf.resolve_right (by omega)
  refine mcalls_of_awp Try.func111 rfl (by decide +kernel) (by rw [Try.ntmps111]; simp) (fun l X h => by simp only [AL.look] at h; (repeat' split at h); all_goals first | omega | cases h) ?_; rw [Try.ntmps111]; simp only [frA]
  (repeat (first | refine j0 ?_ | refine q7 rfl ?_ | refine z7 rfl ?_ | refine j6 ?_ | (refine j4 fun K hK => ?_) | (refine x5 (by kernel_rfl) (by kernel_rfl) fun K hK => ?_) | ((first | refine z6 ?_ | refine x6 ?_ | ((first | refine z2 (hK _ ?_) | refine q6 (hK _ _ (j5 (by kernel_rfl)) ?_)); clear hK K)); (first | show AWP _ _ _ _ _ | ((try simp only [q8]); first | show loopQ _ _ _ _ _ _ | show cutQ _ _ _ _ | show AWP _ _ _ _ _))) | ((first | refine x7 [] rfl ?_ | refine j7 [] rfl ?_); simp (maxSteps := 2000000) (disch := omega) only [go_sem, seval, pnP, pnM, pnP1, pnM1, pnP2, hh]; (repeat (first | refine ⟨by omega, ?_⟩ | refine ⟨True.intro, ?_⟩)))))
  refine awp_loop (hsA key x n gen a b g o) (fun s => s.val.1) ⟨((b - a + 1) / 2, x), by simp only []; omega, PE.refl _ _ _, Hp.none (by simp only []; omega)⟩ ?_ (fun s => ?_)
  · unfold hsA
    refine Weak.list ?_ ?_; (all_goals simp (disch := omega) only [AllF, AllL, q9, x9, j8, exists_eq_left', Option.some.injEq, go_sem, seval, pnP, pnM, pnP1, pnM1, pnP2, hh]); (all_goals (repeat' (with_reducible apply And.intro))); (all_goals try (first | exact z8 rfl | (refine j9 ?_; omega) | (refine z8 ?_; simp; done)))
  obtain ⟨⟨i, y⟩, hi, hpe, hhp⟩ := s
  unfold hsA
  simp only [] at hi hpe hhp
  have dy := hx.pe hpe (by omega) hb
  by_cases hz : i = 0
  · subst hz
    (repeat (first | refine j0 ?_ | refine q7 rfl ?_ | refine z7 rfl ?_ | refine j6 ?_ | (refine j4 fun K hK => ?_) | (refine x5 (by kernel_rfl) (by kernel_rfl) fun K hK => ?_) | ((first | refine z6 ?_ | refine x6 ?_ | ((first | refine z2 (hK _ ?_) | refine q6 (hK _ _ (j5 (by kernel_rfl)) ?_)); clear hK K)); (first | show AWP _ _ _ _ _ | ((try simp only [q8]); first | show loopQ _ _ _ _ _ _ | show cutQ _ _ _ _ | show AWP _ _ _ _ _))) | ((first | refine x7 [] rfl ?_ | refine j7 [] rfl ?_); simp (maxSteps := 2000000) (disch := omega) only [go_sem, seval, pnP, pnM, pnP1, pnM1, pnP2]; (repeat (first | refine ⟨by omega, ?_⟩ | refine ⟨True.intro, ?_⟩)))))
    refine awp_loop (hsB key x n gen a b g o) (fun s => s.val.1) ⟨(b - a, y), Nat.le_refl _, hpe, hhp, fun p q h1 h2 h3 => by omega, fun p q h1 h2 h3 => by omega⟩ ?_ (fun s => ?_)
    · unfold hsB
      refine Weak.list ?_ ?_; (all_goals simp (disch := omega) only [AllF, AllL, q9, x9, j8, exists_eq_left', Option.some.injEq, go_sem, seval, pnP, pnM, pnP1, pnM1, pnP2]); (all_goals (repeat' (with_reducible apply And.intro))); (all_goals try (first | exact z8 rfl | (refine j9 ?_; omega) | (refine z8 ?_; simp; done)))
    obtain ⟨⟨i, z⟩, hi, hpe, hs⟩ := s
    unfold hsB
    simp only [] at hi hpe hs
    have dz := hx.pe hpe (by omega) hb
    by_cases hz : i = 0
    · subst hz
      (repeat (first | refine j0 ?_ | refine q7 rfl ?_ | refine z7 rfl ?_ | refine j6 ?_ | (refine j4 fun K hK => ?_) | (refine x5 (by kernel_rfl) (by kernel_rfl) fun K hK => ?_) | ((first | refine z6 ?_ | refine x6 ?_ | ((first | refine z2 (hK _ ?_) | refine q6 (hK _ _ (j5 (by kernel_rfl)) ?_)); clear hK K)); (first | show AWP _ _ _ _ _ | ((try simp only [q8]); first | show loopQ _ _ _ _ _ _ | show cutQ _ _ _ _ | show AWP _ _ _ _ _))) | ((first | refine x7 [] rfl ?_ | refine j7 [] rfl ?_); simp (maxSteps := 2000000) (disch := omega) only [go_sem, seval, pnP, pnM, pnP1, pnM1, pnP2]; (repeat (first | refine ⟨by omega, ?_⟩ | refine ⟨True.intro, ?_⟩)))))
      (first | (refine z2 (hK _ ?_); refine And.left (retM_void (l := 1000) rfl rfl ?_)) | (refine x6 ?_; refine And.left (retM_void (l := 1000) rfl rfl ?_)) | (refine z6 ?_; refine And.left (retM_void (l := 1000) rfl rfl ?_)) | (refine x8 ?_; refine And.right (retM_void (l := 1000) rfl rfl ?_)) | refine And.left (retM_void (l := 1000) rfl rfl ?_))
      exact ⟨⟨z, hpe, hs.end⟩, rfl, rfl⟩
    · obtain ⟨i, rfl⟩ : ∃ k, i = k + 1 := ⟨i - 1, by omega⟩
      have r1 := rowN_at z (a + i)
      have r2 := rowN_at z a
      obtain ⟨o1, o2, o3⟩ := hs.out (by omega)
      have p1 : PE a b z (swp z a (a + i)) := PE.swp (by omega) (by omega) (by omega) (by omega)
      have dw := hx.pe (hpe.trans p1) (by omega) hb
      (repeat ((fail_if_success (show AWP _ _ (.region 11 _ _) _ _)); first | refine j0 ?_ | refine q7 rfl ?_ | refine z7 rfl ?_ | refine j6 ?_ | (refine j4 fun K hK => ?_) | (refine x5 (by kernel_rfl) (by kernel_rfl) fun K hK => ?_) | ((first | refine z6 ?_ | refine x6 ?_ | ((first | refine z2 (hK _ ?_) | refine q6 (hK _ _ (j5 (by kernel_rfl)) ?_)); clear hK K)); (first | show AWP _ _ _ _ _ | ((try simp only [q8]); first | show loopQ _ _ _ _ _ _ | show cutQ _ _ _ _ | show AWP _ _ _ _ _))) | ((first | refine x7 [] rfl ?_ | refine j7 [] rfl ?_); simp (maxSteps := 2000000) (disch := omega) only [go_sem, seval, pnP, pnM, pnP1, pnM1, pnP2, r1, r2]; (repeat (first | refine ⟨by omega, ?_⟩ | refine ⟨True.intro, ?_⟩)))))
      refine awp_weak (A' := ⟨[(12, .p (.d (.v (.int .i64 (i : Int))))), (9, .p (.d (.v (.int .i64 0)))), (8, .p (.d (.v (.int .i64 (a : Int))))), (3, .p (.fn (.func g) [o] [])), (0, .ow 1000 gen 1 n)], [(1000, .own 3 1 n gen (rowN (swp z a (a + i))))]⟩) ?_ ?_
      · refine Weak.list ?_ ?_; (all_goals simp (disch := omega) only [AllF, AllL, q9, x9, j8, exists_eq_left', Option.some.injEq, go_sem, seval, pnP, pnM, pnP1, pnM1, pnP2]); (all_goals (repeat' (with_reducible apply And.intro))); (all_goals try (first | exact z8 rfl | (refine j9 ?_; omega) | (refine z8 ?_; simp; done)))
        exact lle_own rfl rfl (fun k _ => putN_two z a (a + i) k)
      (repeat (first | refine j0 ?_ | refine q7 rfl ?_ | refine z7 rfl ?_ | refine j6 ?_ | (refine j4 fun K hK => ?_) | (refine x5 (by kernel_rfl) (by kernel_rfl) fun K hK => ?_) | ((first | refine z6 ?_ | refine x6 ?_ | ((first | refine z2 (hK _ ?_) | refine q6 (hK _ _ (j5 (by kernel_rfl)) ?_)); clear hK K)); (first | show AWP _ _ _ _ _ | ((try simp only [q8]); first | show loopQ _ _ _ _ _ _ | show cutQ _ _ _ _ | show AWP _ _ _ _ _))) | ((first | refine x7 [] rfl ?_ | refine j7 [] rfl ?_); simp (maxSteps := 2000000) (disch := omega) only [go_sem, seval, pnP, pnM, pnP1, pnM1, pnP2]; (repeat (first | refine ⟨by omega, ?_⟩ | refine ⟨True.intro, ?_⟩)))))
      (refine walkS_ex (step_mcallX [(1000, 1000)] rfl rfl rfl rfl rfl rfl (sift_c hc (swp z a (a + i)) n gen 0 i a 0 i a rfl rfl rfl (by omega) (by omega) hn dw o1) (fun _ => rfl) (j11 (by repeat (first | exact trivial | refine ⟨rfl, ?_⟩)) (by kernel_rfl)) (fun _ => (j11 (by repeat (first | exact trivial | refine ⟨rfl, ?_⟩)) (by kernel_rfl)))) ?_); rintro ⟨u,hu,hu2⟩; simp (maxSteps := 2000000) (disch := omega) only [go_sem, seval, pnP, pnM, pnP1, pnM1, pnP2]
      (repeat (first | refine j0 ?_ | refine q7 rfl ?_ | refine z7 rfl ?_ | refine j6 ?_ | (refine j4 fun K hK => ?_) | (refine x5 (by kernel_rfl) (by kernel_rfl) fun K hK => ?_) | ((first | refine z6 ?_ | refine x6 ?_ | ((first | refine z2 (hK _ ?_) | refine q6 (hK _ _ (j5 (by kernel_rfl)) ?_)); clear hK K)); (first | show AWP _ _ _ _ _ | ((try simp only [q8]); first | show loopQ _ _ _ _ _ _ | show cutQ _ _ _ _ | show AWP _ _ _ _ _))) | ((first | refine x7 [] rfl ?_ | refine j7 [] rfl ?_); simp (maxSteps := 2000000) (disch := omega) only [go_sem, seval, pnP, pnM, pnP1, pnM1, pnP2]; (repeat (first | refine ⟨by omega, ?_⟩ | refine ⟨True.intro, ?_⟩)))))
      refine ⟨⟨(i, u), by simp only []; omega, (hpe.trans p1).trans (hu.widen (by omega) (by omega) (by omega)), HS.next o2 o3 hu hu2⟩, by simp only []; omega, ?_⟩
      refine Weak.list ?_ ?_; (all_goals simp (disch := omega) only [AllF, AllL, q9, x9, j8, exists_eq_left', Option.some.injEq, go_sem, seval, pnP, pnM, pnP1, pnM1, pnP2]); (all_goals (repeat' (with_reducible apply And.intro))); (all_goals try (first | exact z8 rfl | (refine j9 ?_; omega) | (refine z8 ?_; simp; done)))
  · obtain ⟨i, rfl⟩ : ∃ k, i = k + 1 := ⟨i - 1, by omega⟩
    (repeat (first | refine j0 ?_ | refine q7 rfl ?_ | refine z7 rfl ?_ | refine j6 ?_ | (refine j4 fun K hK => ?_) | (refine x5 (by kernel_rfl) (by kernel_rfl) fun K hK => ?_) | ((first | refine z6 ?_ | refine x6 ?_ | ((first | refine z2 (hK _ ?_) | refine q6 (hK _ _ (j5 (by kernel_rfl)) ?_)); clear hK K)); (first | show AWP _ _ _ _ _ | ((try simp only [q8]); first | show loopQ _ _ _ _ _ _ | show cutQ _ _ _ _ | show AWP _ _ _ _ _))) | ((first | refine x7 [] rfl ?_ | refine j7 [] rfl ?_); simp (maxSteps := 2000000) (disch := omega) only [go_sem, seval, pnP, pnM, pnP1, pnM1, pnP2]; (repeat (first | refine ⟨by omega, ?_⟩ | refine ⟨True.intro, ?_⟩)))))
    (refine walkS_ex (step_mcallX [(1000, 1000)] rfl rfl rfl rfl rfl rfl (sift_c hc y n gen i (b - a) a i (b - a : Nat) a rfl rfl rfl (by omega) (by omega) hn dy hhp) (fun _ => rfl) (j11 (by repeat (first | exact trivial | refine ⟨rfl, ?_⟩)) (by kernel_rfl)) (fun _ => (j11 (by repeat (first | exact trivial | refine ⟨rfl, ?_⟩)) (by kernel_rfl)))) ?_); rintro ⟨u,hu,hu2⟩; simp (maxSteps := 2000000) (disch := omega) only [go_sem, seval, pnP, pnM, pnP1, pnM1, pnP2]
    (repeat (first | refine j0 ?_ | refine q7 rfl ?_ | refine z7 rfl ?_ | refine j6 ?_ | (refine j4 fun K hK => ?_) | (refine x5 (by kernel_rfl) (by kernel_rfl) fun K hK => ?_) | ((first | refine z6 ?_ | refine x6 ?_ | ((first | refine z2 (hK _ ?_) | refine q6 (hK _ _ (j5 (by kernel_rfl)) ?_)); clear hK K)); (first | show AWP _ _ _ _ _ | ((try simp only [q8]); first | show loopQ _ _ _ _ _ _ | show cutQ _ _ _ _ | show AWP _ _ _ _ _))) | ((first | refine x7 [] rfl ?_ | refine j7 [] rfl ?_); simp (maxSteps := 2000000) (disch := omega) only [go_sem, seval, pnP, pnM, pnP1, pnM1, pnP2]; (repeat (first | refine ⟨by omega, ?_⟩ | refine ⟨True.intro, ?_⟩)))))
    refine ⟨⟨(i, u), by simp only []; omega, hpe.trans (hu.widen (by omega) (by omega) (by omega)), hu2⟩, by simp only []; omega, ?_⟩
    refine Weak.list ?_ ?_; (all_goals simp (disch := omega) only [AllF, AllL, q9, x9, j8, exists_eq_left', Option.some.injEq, go_sem, seval, pnP, pnM, pnP1, pnM1, pnP2]); (all_goals (repeat' (with_reducible apply And.intro))); (all_goals try (first | exact z8 rfl | (refine j9 ?_; omega) | (refine z8 ?_; simp; done)))
end Go.Proofs.Ytbiildleaelodaa
set_option linter.unusedSimpArgs false
set_option linter.unusedVariables false
namespace Go.Proofs.Ytbiildleaelodaa
open Go.Proofs.Ytbiildleaelodaa.AL
def swC (s : Int) : LV := .cells 3 [.p (.d (.v (.int .i64 s)))]
def rwL (n gen : Nat) (x : Nat → Nat) (s : Int) : List (Nat × LV) := [(1000, .own 3 1 n gen (rowN x)), (1001, swC s)]
set_option maxRecDepth 100000 in
set_option maxHeartbeats 2000000 in
theorem order2_c {key : Nat → Int} {c : Nat → Nat → Int} {g : FuncId} {o : PV} {N : Nat} (hc : CmpN Try.prog g o N key c) (x : Nat → Nat) (n gen a b : Nat) (s : Int) (ha : a < n) (hb : b < n) (hn : n ≤ 1099511627776) (hx : Dom n N x) :
    MCalls Try.prog 141 [.ow 1000 gen 1 n, .p (.d (.v (.int .i64 (a : Int)))), .p (.d (.v (.int .i64 (b : Int)))), .loc 1001 0, .p (.fn (.func g) [o] [])] (rwL n gen x s)
      (fun rs M => ∃ r : {r : Nat × Nat × Int // (r.1 = a ∧ r.2.1 = b) ∨ (r.1 = b ∧ r.2.1 = a)}, rs = [.p (.d (.v (.int .i64 (r.val.1 : Int)))), .p (.d (.v (.int .i64 (r.val.2.1 : Int))))] ∧ M = rwL n gen x r.val.2.2) := by
  have r1 := rowN_at x a
  have r2 := rowN_at x b
  have cc := hc.call (x b) (x a) (hx.lt _ hb) (hx.lt _ ha)
  generalize c (x b) (x a) = c0 at cc
  unfold rwL swC
  by_cases hlt : c0 < 0
  · refine mcalls_of_awp Try.func141 rfl (by decide +kernel) (by rw [Try.ntmps141]; simp) (fun l X h => by simp only [AL.look] at h; (repeat' split at h); all_goals first | omega | cases h) ?_; rw [Try.ntmps141]; simp only [frA]
    (repeat (first | refine j0 ?_ | refine q7 rfl ?_ | refine z7 rfl ?_ | refine j6 ?_ | (refine j4 fun K hK => ?_) | (refine x5 (by kernel_rfl) (by kernel_rfl) fun K hK => ?_) | ((first | refine z6 ?_ | refine x6 ?_ | ((first | refine z2 (hK _ ?_) | refine q6 (hK _ _ (j5 (by kernel_rfl)) ?_)); clear hK K)); (first | show AWP _ _ _ _ _ | ((try simp only [q8]); first | show loopQ _ _ _ _ _ _ | show cutQ _ _ _ _ | show AWP _ _ _ _ _))) | ((first | refine q10 rfl rfl rfl ?_ | refine z10 rfl rfl rfl ?_); simp (maxSteps := 2000000) (disch := omega) only [go_sem, seval, pnP, pnM, pnP1, pnM1, r1, r2]; (first | refine ⟨_, cc, ?_⟩)) | ((first | refine x7 [] rfl ?_ | refine j7 [] rfl ?_); simp (maxSteps := 2000000) (disch := omega) only [go_sem, seval, pnP, pnM, pnP1, pnM1, r1, r2]; (repeat (first | refine ⟨by omega, ?_⟩ | refine ⟨True.intro, ?_⟩)))))
    exact x8 (retM_of [_, _] [(1000, _), (1001, _)] ⟨rfl, rfl, trivial⟩ (by simp [AL.look] <;> first | rfl | exact ⟨rfl, rfl⟩) ⟨⟨(b, a, _), .inr ⟨rfl, rfl⟩⟩, rfl, rfl⟩)
  · refine mcalls_of_awp Try.func141 rfl (by decide +kernel) (by rw [Try.ntmps141]; simp) (fun l X h => by simp only [AL.look] at h; (repeat' split at h); all_goals first | omega | cases h) ?_; rw [Try.ntmps141]; simp only [frA]
    (repeat (first | refine j0 ?_ | refine q7 rfl ?_ | refine z7 rfl ?_ | refine j6 ?_ | (refine j4 fun K hK => ?_) | (refine x5 (by kernel_rfl) (by kernel_rfl) fun K hK => ?_) | ((first | refine z6 ?_ | refine x6 ?_ | ((first | refine z2 (hK _ ?_) | refine q6 (hK _ _ (j5 (by kernel_rfl)) ?_)); clear hK K)); (first | show AWP _ _ _ _ _ | ((try simp only [q8]); first | show loopQ _ _ _ _ _ _ | show cutQ _ _ _ _ | show AWP _ _ _ _ _))) | ((first | refine q10 rfl rfl rfl ?_ | refine z10 rfl rfl rfl ?_); simp (maxSteps := 2000000) (disch := omega) only [go_sem, seval, pnP, pnM, pnP1, pnM1, r1, r2]; (first | refine ⟨_, cc, ?_⟩)) | ((first | refine x7 [] rfl ?_ | refine j7 [] rfl ?_); simp (maxSteps := 2000000) (disch := omega) only [go_sem, seval, pnP, pnM, pnP1, pnM1, r1, r2]; (repeat (first | refine ⟨by omega, ?_⟩ | refine ⟨True.intro, ?_⟩)))))
    exact x8 (retM_of [_, _] [(1000, _), (1001, _)] ⟨rfl, rfl, trivial⟩ (by simp [AL.look] <;> first | rfl | exact ⟨rfl, rfl⟩) ⟨⟨(a, b, s), .inl ⟨rfl, rfl⟩⟩, rfl, rfl⟩)
set_option maxRecDepth 100000 in
set_option maxHeartbeats 2000000 in
theorem median_c {key : Nat → Int} {c : Nat → Nat → Int} {g : FuncId} {o : PV} {N : Nat} (hc : CmpN Try.prog g o N key c) (x : Nat → Nat) (n gen a b d : Nat) (s : Int) (ha : a < n) (hb : b < n) (hd : d < n) (hn : n ≤ 1099511627776) (hx : Dom n N x) :
    MCalls Try.prog 134 [.ow 1000 gen 1 n, .p (.d (.v (.int .i64 (a : Int)))), .p (.d (.v (.int .i64 (b : Int)))), .p (.d (.v (.int .i64 (d : Int)))), .loc 1001 0, .p (.fn (.func g) [o] [])] (rwL n gen x s)
      (fun rs M => ∃ r : {r : Nat × Int // r.1 = a ∨ r.1 = b ∨ r.1 = d}, rs = [.p (.d (.v (.int .i64 (r.val.1 : Int))))] ∧ M = rwL n gen x r.val.2) := by
  have k := fun p q s h1 h2 => order2_c hc x n gen p q s h1 h2 hn hx
  unfold rwL swC at *
  refine mcalls_of_awp Try.func134 rfl (by decide +kernel) (by rw [Try.ntmps134]; simp) (fun l X h => by simp only [AL.look] at h; (repeat' split at h); all_goals first | omega | cases h) ?_; rw [Try.ntmps134]; simp only [frA]
  (repeat (first | refine j0 ?_ | refine q7 rfl ?_ | refine z7 rfl ?_ | refine j6 ?_ | (refine j4 fun K hK => ?_) | (refine x5 (by kernel_rfl) (by kernel_rfl) fun K hK => ?_) | ((first | refine z6 ?_ | refine x6 ?_ | ((first | refine z2 (hK _ ?_) | refine q6 (hK _ _ (j5 (by kernel_rfl)) ?_)); clear hK K)); (first | show AWP _ _ _ _ _ | ((try simp only [q8]); first | show loopQ _ _ _ _ _ _ | show cutQ _ _ _ _ | show AWP _ _ _ _ _))) | ((first | refine x7 [] rfl ?_ | refine j7 [] rfl ?_); simp (maxSteps := 2000000) (disch := omega) only [go_sem, seval, pnP, pnM, pnP1, pnM1]; (repeat (first | refine ⟨by omega, ?_⟩ | refine ⟨True.intro, ?_⟩)))))
  (refine walkS_ex (step_mcallX [(1000, 1000), (1001, 1001)] rfl rfl rfl rfl rfl rfl (k a b s ha hb) (fun _ => rfl) (j11 (by repeat (first | exact trivial | refine ⟨rfl, ?_⟩)) (by kernel_rfl)) (fun _ => (j11 (by repeat (first | exact trivial | refine ⟨rfl, ?_⟩)) (by kernel_rfl)))) ?_); rintro ⟨⟨a1,b1,s1⟩,h1⟩; simp (maxSteps := 2000000) (disch := omega) only [go_sem, seval, pnP, pnM, pnP1, pnM1]
  simp only [] at h1
  (repeat (first | refine j0 ?_ | refine q7 rfl ?_ | refine z7 rfl ?_ | refine j6 ?_ | (refine j4 fun K hK => ?_) | (refine x5 (by kernel_rfl) (by kernel_rfl) fun K hK => ?_) | ((first | refine z6 ?_ | refine x6 ?_ | ((first | refine z2 (hK _ ?_) | refine q6 (hK _ _ (j5 (by kernel_rfl)) ?_)); clear hK K)); (first | show AWP _ _ _ _ _ | ((try simp only [q8]); first | show loopQ _ _ _ _ _ _ | show cutQ _ _ _ _ | show AWP _ _ _ _ _))) | ((first | refine x7 [] rfl ?_ | refine j7 [] rfl ?_); simp (maxSteps := 2000000) (disch := omega) only [go_sem, seval, pnP, pnM, pnP1, pnM1]; (repeat (first | refine ⟨by omega, ?_⟩ | refine ⟨True.intro, ?_⟩)))))
  (refine walkS_ex (step_mcallX [(1000, 1000), (1001, 1001)] rfl rfl rfl rfl rfl rfl (k b1 d s1 (by omega) hd) (fun _ => rfl) (j11 (by repeat (first | exact trivial | refine ⟨rfl, ?_⟩)) (by kernel_rfl)) (fun _ => (j11 (by repeat (first | exact trivial | refine ⟨rfl, ?_⟩)) (by kernel_rfl)))) ?_); rintro ⟨⟨b2,d2,s2⟩,h2⟩; simp (maxSteps := 2000000) (disch := omega) only [go_sem, seval, pnP, pnM, pnP1, pnM1]
  simp only [] at h2
  (repeat (first | refine j0 ?_ | refine q7 rfl ?_ | refine z7 rfl ?_ | refine j6 ?_ | (refine j4 fun K hK => ?_) | (refine x5 (by kernel_rfl) (by kernel_rfl) fun K hK => ?_) | ((first | refine z6 ?_ | refine x6 ?_ | ((first | refine z2 (hK _ ?_) | refine q6 (hK _ _ (j5 (by kernel_rfl)) ?_)); clear hK K)); (first | show AWP _ _ _ _ _ | ((try simp only [q8]); first | show loopQ _ _ _ _ _ _ | show cutQ _ _ _ _ | show AWP _ _ _ _ _))) | ((first | refine x7 [] rfl ?_ | refine j7 [] rfl ?_); simp (maxSteps := 2000000) (disch := omega) only [go_sem, seval, pnP, pnM, pnP1, pnM1]; (repeat (first | refine ⟨by omega, ?_⟩ | refine ⟨True.intro, ?_⟩)))))
  (refine walkS_ex (step_mcallX [(1000, 1000), (1001, 1001)] rfl rfl rfl rfl rfl rfl (k a1 b2 s2 (by omega) (by omega)) (fun _ => rfl) (j11 (by repeat (first | exact trivial | refine ⟨rfl, ?_⟩)) (by kernel_rfl)) (fun _ => (j11 (by repeat (first | exact trivial | refine ⟨rfl, ?_⟩)) (by kernel_rfl)))) ?_); rintro ⟨⟨a3,b3,s3⟩,h3⟩; simp (maxSteps := 2000000) (disch := omega) only [go_sem, seval, pnP, pnM, pnP1, pnM1]
  simp only [] at h3
  (repeat (first | refine j0 ?_ | refine q7 rfl ?_ | refine z7 rfl ?_ | refine j6 ?_ | (refine j4 fun K hK => ?_) | (refine x5 (by kernel_rfl) (by kernel_rfl) fun K hK => ?_) | ((first | refine z6 ?_ | refine x6 ?_ | ((first | refine z2 (hK _ ?_) | refine q6 (hK _ _ (j5 (by kernel_rfl)) ?_)); clear hK K)); (first | show AWP _ _ _ _ _ | ((try simp only [q8]); first | show loopQ _ _ _ _ _ _ | show cutQ _ _ _ _ | show AWP _ _ _ _ _))) | ((first | refine x7 [] rfl ?_ | refine j7 [] rfl ?_); simp (maxSteps := 2000000) (disch := omega) only [go_sem, seval, pnP, pnM, pnP1, pnM1]; (repeat (first | refine ⟨by omega, ?_⟩ | refine ⟨True.intro, ?_⟩)))))
  exact x8 (retM_of [_] [(1000, _), (1001, _)] ⟨rfl, trivial⟩ (by simp [AL.look] <;> first | rfl | exact ⟨rfl, rfl⟩) ⟨⟨(b3, s3), by simp only []; omega⟩, rfl, rfl⟩)
set_option maxRecDepth 100000 in
set_option maxHeartbeats 2000000 in
theorem adjacent_c {key : Nat → Int} {c : Nat → Nat → Int} {g : FuncId} {o : PV} {N : Nat} (hc : CmpN Try.prog g o N key c) (x : Nat → Nat) (n gen a : Nat) (s : Int) (ha : 0 < a) (hb : a + 1 < n) (hn : n ≤ 1099511627776) (hx : Dom n N x) :
    MCalls Try.prog 133 [.ow 1000 gen 1 n, .p (.d (.v (.int .i64 (a : Int)))), .loc 1001 0, .p (.fn (.func g) [o] [])] (rwL n gen x s)
      (fun rs M => ∃ r : {r : Nat × Int // r.1 + 1 = a ∨ r.1 = a ∨ r.1 = a + 1}, rs = [.p (.d (.v (.int .i64 (r.val.1 : Int))))] ∧ M = rwL n gen x r.val.2) := by
  obtain ⟨a, rfl⟩ : ∃ k, a = k + 1 := ⟨a - 1, by omega⟩
  have k := median_c hc x n gen a (a + 1) (a + 2) s (by omega) (by omega) (by omega) hn hx
  have e1 : ((a : Int) + 1 - 1) = (a : Int) := by omega
  have e2 : ((a : Int) + 1 + 1) = (a : Int) + 2 := by omega
  unfold rwL swC at *
  simp only [Int.natCast_add, Int.cast_ofNat_Int] at k ⊢
  refine mcalls_of_awp Try.func133 rfl (by decide +kernel) (by rw [Try.ntmps133]; simp) (fun l X h => by simp only [AL.look] at h; (repeat' split at h); all_goals first | omega | cases h) ?_; rw [Try.ntmps133]; simp only [frA]
  (repeat (first | refine j0 ?_ | refine q7 rfl ?_ | refine z7 rfl ?_ | refine j6 ?_ | (refine j4 fun K hK => ?_) | (refine x5 (by kernel_rfl) (by kernel_rfl) fun K hK => ?_) | ((first | refine z6 ?_ | refine x6 ?_ | ((first | refine z2 (hK _ ?_) | refine q6 (hK _ _ (j5 (by kernel_rfl)) ?_)); clear hK K)); (first | show AWP _ _ _ _ _ | ((try simp only [q8]); first | show loopQ _ _ _ _ _ _ | show cutQ _ _ _ _ | show AWP _ _ _ _ _))) | ((first | refine x7 [] rfl ?_ | refine j7 [] rfl ?_); simp (maxSteps := 2000000) (disch := omega) only [go_sem, seval, pnP, pnM, pnP1, pnM1, e1, e2, Int.natCast_add, Int.cast_ofNat_Int]; (repeat (first | refine ⟨by omega, ?_⟩ | refine ⟨True.intro, ?_⟩)))))
  (refine walkS_ex (step_mcallX [(1000, 1000), (1001, 1001)] rfl rfl rfl rfl rfl rfl (k) (fun _ => rfl) (j11 (by repeat (first | exact trivial | refine ⟨rfl, ?_⟩)) (by kernel_rfl)) (fun _ => (j11 (by repeat (first | exact trivial | refine ⟨rfl, ?_⟩)) (by kernel_rfl)))) ?_); rintro ⟨⟨r,s1⟩,h1⟩; simp (maxSteps := 2000000) (disch := omega) only [go_sem, seval, pnP, pnM, pnP1, pnM1, e1, e2, Int.natCast_add, Int.cast_ofNat_Int]
  simp only [] at h1
  (repeat (first | refine j0 ?_ | refine q7 rfl ?_ | refine z7 rfl ?_ | refine j6 ?_ | (refine j4 fun K hK => ?_) | (refine x5 (by kernel_rfl) (by kernel_rfl) fun K hK => ?_) | ((first | refine z6 ?_ | refine x6 ?_ | ((first | refine z2 (hK _ ?_) | refine q6 (hK _ _ (j5 (by kernel_rfl)) ?_)); clear hK K)); (first | show AWP _ _ _ _ _ | ((try simp only [q8]); first | show loopQ _ _ _ _ _ _ | show cutQ _ _ _ _ | show AWP _ _ _ _ _))) | ((first | refine x7 [] rfl ?_ | refine j7 [] rfl ?_); simp (maxSteps := 2000000) (disch := omega) only [go_sem, seval, pnP, pnM, pnP1, pnM1, e1, e2, Int.natCast_add, Int.cast_ofNat_Int]; (repeat (first | refine ⟨by omega, ?_⟩ | refine ⟨True.intro, ?_⟩)))))
  exact x8 (retM_of [_] [(1000, _), (1001, _)] ⟨rfl, trivial⟩ (by simp [AL.look] <;> first | rfl | exact ⟨rfl, rfl⟩) ⟨⟨(r, s1), by simp only []; omega⟩, rfl, rfl⟩)
def cpI (n gen a b : Nat) (x : Nat → Nat) (g : FuncId) (o : PV) (s : Int) (i j k : Nat) : ASt :=
  ⟨[(14, .p (.d (.v (.int .i64 (k : Int))))), (13, .p (.d (.v (.int .i64 (j : Int))))), (12, .p (.d (.v (.int .i64 (i : Int))))), (11, .loc 11 0), (10, .p (.d (.v (.int .i64 ((b : Int) - a))))), (3, .p (.fn (.func g) [o] [])), (0, .ow 1000 gen 1 n)],
   [(1000, .own 3 1 n gen (rowN x)), (11, swC s)]⟩
set_option maxRecDepth 100000 in
set_option maxHeartbeats 4000000 in
theorem choose_c {key : Nat → Int} {c : Nat → Nat → Int} {g : FuncId} {o : PV} {N : Nat} (hc : CmpN Try.prog g o N key c) (x : Nat → Nat) (n gen a b : Nat) (hab : a + 12 < b) (hb : b ≤ n) (hn : n ≤ 1099511627776) (hx : Dom n N x) :
    MCalls Try.prog 113 [.ow 1000 gen 1 n, .p (.d (.v (.int .i64 (a : Int)))), .p (.d (.v (.int .i64 (b : Int)))), .p (.fn (.func g) [o] [])] [(1000, .own 3 1 n gen (rowN x))]
      (fun rs M => ∃ r : {r : Nat × Int // a ≤ r.1 ∧ r.1 < b ∧ (r.2 = 0 ∨ r.2 = 1 ∨ r.2 = 2)}, rs = [.p (.d (.v (.int .i64 (r.val.1 : Int)))), .p (.d (.v (.int .i64 r.val.2)))] ∧ M = [(1000, .own 3 1 n gen (rowN x))]) := by
  have q4 : ((b : Int) - a).tdiv 4 = (((b - a) / 4 : Nat) : Int) := by
    rw [show (b : Int) - a = ((b - a : Nat) : Int) by omega, Int.tdiv_eq_ediv_of_nonneg (by omega)]; omega
  have qd : 4 * ((b - a) / 4) ≤ b - a ∧ b - a < 4 * ((b - a) / 4) + 4 := by omega
  generalize (b - a) / 4 = d at q4 qd
  have adj := fun p s h1 h2 => adjacent_c hc x n gen p s h1 h2 hn hx
  have med := fun p q r s h1 h2 h3 => median_c hc x n gen p q r s h1 h2 h3 hn hx
  unfold rwL at adj med
  refine mcalls_of_awp Try.func113 rfl (by decide +kernel) (by rw [Try.ntmps113]; simp) (fun l X h => by simp only [AL.look] at h; (repeat' split at h); all_goals first | omega | cases h) ?_; rw [Try.ntmps113]; simp only [frA]
  (repeat ((fail_if_success (show AWP _ _ (.region 6 _ _) _ _)); first | refine j0 ?_ | refine q7 rfl ?_ | refine z7 rfl ?_ | refine j6 ?_ | (refine j4 fun K hK => ?_) | (refine x5 (by kernel_rfl) (by kernel_rfl) fun K hK => ?_) | ((first | refine z6 ?_ | refine x6 ?_ | ((first | refine z2 (hK _ ?_) | refine q6 (hK _ _ (j5 (by kernel_rfl)) ?_)); clear hK K)); (first | show AWP _ _ _ _ _ | ((try simp only [q8]); first | show loopQ _ _ _ _ _ _ | show cutQ _ _ _ _ | show AWP _ _ _ _ _))) | ((first | refine x7 [11] rfl ?_ | refine j7 [11] rfl ?_); simp (maxSteps := 2000000) (disch := omega) only [go_sem, seval, pnP, pnM, pnP1, pnM1, q4]; (repeat (first | refine ⟨by omega, ?_⟩ | refine ⟨True.intro, ?_⟩)))))
  refine awp_weak (A' := cpI n gen a b x g o 0 (a + d) (a + 2 * d) (a + 3 * d)) ?_ ?_
  · unfold cpI swC
    refine Weak.list ?_ ?_; (all_goals simp (disch := omega) only [AllF, AllL, q9, x9, j8, exists_eq_left', Option.some.injEq, go_sem, seval, pnP, pnM, pnP1, pnM1, q4]); (all_goals (repeat' (with_reducible apply And.intro))); (all_goals try (first | exact z8 rfl | (refine j9 ?_; omega) | (refine z8 ?_; simp; done)))
  unfold cpI
  by_cases h50 : b - a ≥ 50
  · (repeat (first | refine j0 ?_ | refine q7 rfl ?_ | refine z7 rfl ?_ | refine j6 ?_ | (refine j4 fun K hK => ?_) | (refine x5 (by kernel_rfl) (by kernel_rfl) fun K hK => ?_) | ((first | refine z6 ?_ | refine x6 ?_ | ((first | refine z2 (hK _ ?_) | refine q6 (hK _ _ (j5 (by kernel_rfl)) ?_)); clear hK K)); (first | show AWP _ _ _ _ _ | ((try simp only [q8]); first | show loopQ _ _ _ _ _ _ | show cutQ _ _ _ _ | show AWP _ _ _ _ _))) | ((first | refine x7 [11] rfl ?_ | refine j7 [11] rfl ?_); simp (maxSteps := 2000000) (disch := omega) only [go_sem, seval, pnP, pnM, pnP1, pnM1]; (repeat (first | refine ⟨by omega, ?_⟩ | refine ⟨True.intro, ?_⟩)))))
    unfold swC at *
    (refine walkS_ex (step_mcallX [(1000, 1000), (1001, 11)] rfl rfl rfl rfl rfl rfl (adj (a + d) 0 (by omega) (by omega)) (fun _ => rfl) (j11 (by repeat (first | exact trivial | refine ⟨rfl, ?_⟩)) (by kernel_rfl)) (fun _ => (j11 (by repeat (first | exact trivial | refine ⟨rfl, ?_⟩)) (by kernel_rfl)))) ?_); rintro ⟨⟨i,s1⟩,h1⟩; simp (maxSteps := 2000000) (disch := omega) only [go_sem, seval, pnP, pnM, pnP1, pnM1]
    simp only [] at h1
    (repeat (first | refine j0 ?_ | refine q7 rfl ?_ | refine z7 rfl ?_ | refine j6 ?_ | (refine j4 fun K hK => ?_) | (refine x5 (by kernel_rfl) (by kernel_rfl) fun K hK => ?_) | ((first | refine z6 ?_ | refine x6 ?_ | ((first | refine z2 (hK _ ?_) | refine q6 (hK _ _ (j5 (by kernel_rfl)) ?_)); clear hK K)); (first | show AWP _ _ _ _ _ | ((try simp only [q8]); first | show loopQ _ _ _ _ _ _ | show cutQ _ _ _ _ | show AWP _ _ _ _ _))) | ((first | refine x7 [11] rfl ?_ | refine j7 [11] rfl ?_); simp (maxSteps := 2000000) (disch := omega) only [go_sem, seval, pnP, pnM, pnP1, pnM1]; (repeat (first | refine ⟨by omega, ?_⟩ | refine ⟨True.intro, ?_⟩)))))
    (refine walkS_ex (step_mcallX [(1000, 1000), (1001, 11)] rfl rfl rfl rfl rfl rfl (adj (a + 2 * d) s1 (by omega) (by omega)) (fun _ => rfl) (j11 (by repeat (first | exact trivial | refine ⟨rfl, ?_⟩)) (by kernel_rfl)) (fun _ => (j11 (by repeat (first | exact trivial | refine ⟨rfl, ?_⟩)) (by kernel_rfl)))) ?_); rintro ⟨⟨j,s2⟩,h2⟩; simp (maxSteps := 2000000) (disch := omega) only [go_sem, seval, pnP, pnM, pnP1, pnM1]
    simp only [] at h2
    (repeat (first | refine j0 ?_ | refine q7 rfl ?_ | refine z7 rfl ?_ | refine j6 ?_ | (refine j4 fun K hK => ?_) | (refine x5 (by kernel_rfl) (by kernel_rfl) fun K hK => ?_) | ((first | refine z6 ?_ | refine x6 ?_ | ((first | refine z2 (hK _ ?_) | refine q6 (hK _ _ (j5 (by kernel_rfl)) ?_)); clear hK K)); (first | show AWP _ _ _ _ _ | ((try simp only [q8]); first | show loopQ _ _ _ _ _ _ | show cutQ _ _ _ _ | show AWP _ _ _ _ _))) | ((first | refine x7 [11] rfl ?_ | refine j7 [11] rfl ?_); simp (maxSteps := 2000000) (disch := omega) only [go_sem, seval, pnP, pnM, pnP1, pnM1]; (repeat (first | refine ⟨by omega, ?_⟩ | refine ⟨True.intro, ?_⟩)))))
    (refine walkS_ex (step_mcallX [(1000, 1000), (1001, 11)] rfl rfl rfl rfl rfl rfl (adj (a + 3 * d) s2 (by omega) (by omega)) (fun _ => rfl) (j11 (by repeat (first | exact trivial | refine ⟨rfl, ?_⟩)) (by kernel_rfl)) (fun _ => (j11 (by repeat (first | exact trivial | refine ⟨rfl, ?_⟩)) (by kernel_rfl)))) ?_); rintro ⟨⟨k,s3⟩,h3⟩; simp (maxSteps := 2000000) (disch := omega) only [go_sem, seval, pnP, pnM, pnP1, pnM1]
    simp only [] at h3
    (repeat (first | refine j0 ?_ | refine q7 rfl ?_ | refine z7 rfl ?_ | refine j6 ?_ | (refine j4 fun K hK => ?_) | (refine x5 (by kernel_rfl) (by kernel_rfl) fun K hK => ?_) | ((first | refine z6 ?_ | refine x6 ?_ | ((first | refine z2 (hK _ ?_) | refine q6 (hK _ _ (j5 (by kernel_rfl)) ?_)); clear hK K)); (first | show AWP _ _ _ _ _ | ((try simp only [q8]); first | show loopQ _ _ _ _ _ _ | show cutQ _ _ _ _ | show AWP _ _ _ _ _))) | ((first | refine x7 [11] rfl ?_ | refine j7 [11] rfl ?_); simp (maxSteps := 2000000) (disch := omega) only [go_sem, seval, pnP, pnM, pnP1, pnM1]; (repeat (first | refine ⟨by omega, ?_⟩ | refine ⟨True.intro, ?_⟩)))))
    (refine walkS_ex (step_mcallX [(1000, 1000), (1001, 11)] rfl rfl rfl rfl rfl rfl (med i j k s3 (by omega) (by omega) (by omega)) (fun _ => rfl) (j11 (by repeat (first | exact trivial | refine ⟨rfl, ?_⟩)) (by kernel_rfl)) (fun _ => (j11 (by repeat (first | exact trivial | refine ⟨rfl, ?_⟩)) (by kernel_rfl)))) ?_); rintro ⟨⟨p,s4⟩,h4⟩; simp (maxSteps := 2000000) (disch := omega) only [go_sem, seval, pnP, pnM, pnP1, pnM1]
    simp only [] at h4
    have hp : a ≤ p ∧ p < b := by rcases h4 with rfl | rfl | rfl <;> omega
    by_cases k0 : s4 = 0
    · have q0 : (s4 == 0) = true := ieq_tt k0
      (repeat (first | refine j0 ?_ | refine q7 rfl ?_ | refine z7 rfl ?_ | refine j6 ?_ | (refine j4 fun K hK => ?_) | (refine x5 (by kernel_rfl) (by kernel_rfl) fun K hK => ?_) | ((first | refine z6 ?_ | refine x6 ?_ | ((first | refine z2 (hK _ ?_) | refine q6 (hK _ _ (j5 (by kernel_rfl)) ?_)); clear hK K)); (first | show AWP _ _ _ _ _ | ((try simp only [q8]); first | show loopQ _ _ _ _ _ _ | show cutQ _ _ _ _ | show AWP _ _ _ _ _))) | ((first | refine x7 [11] rfl ?_ | refine j7 [11] rfl ?_); simp (maxSteps := 2000000) (disch := omega) only [go_sem, seval, pnP, pnM, pnP1, pnM1, q0]; (repeat (first | refine ⟨by omega, ?_⟩ | refine ⟨True.intro, ?_⟩)))))
      exact x8 (retM_of [_, _] [(1000, _)] ⟨rfl, rfl, trivial⟩ (by simp [AL.look] <;> first | rfl | exact ⟨rfl, rfl⟩) ⟨⟨(p, 1), hp.1, hp.2, .inr (.inl rfl)⟩, rfl, rfl⟩)
    · have q0 : (s4 == 0) = false := ieq_ff k0
      by_cases k1 : s4 = 12
      · have q1 : (s4 == 12) = true := ieq_tt k1
        (repeat (first | refine j0 ?_ | refine q7 rfl ?_ | refine z7 rfl ?_ | refine j6 ?_ | (refine j4 fun K hK => ?_) | (refine x5 (by kernel_rfl) (by kernel_rfl) fun K hK => ?_) | ((first | refine z6 ?_ | refine x6 ?_ | ((first | refine z2 (hK _ ?_) | refine q6 (hK _ _ (j5 (by kernel_rfl)) ?_)); clear hK K)); (first | show AWP _ _ _ _ _ | ((try simp only [q8]); first | show loopQ _ _ _ _ _ _ | show cutQ _ _ _ _ | show AWP _ _ _ _ _))) | ((first | refine x7 [11] rfl ?_ | refine j7 [11] rfl ?_); simp (maxSteps := 2000000) (disch := omega) only [go_sem, seval, pnP, pnM, pnP1, pnM1, q0, q1]; (repeat (first | refine ⟨by omega, ?_⟩ | refine ⟨True.intro, ?_⟩)))))
        exact x8 (retM_of [_, _] [(1000, _)] ⟨rfl, rfl, trivial⟩ (by simp [AL.look] <;> first | rfl | exact ⟨rfl, rfl⟩) ⟨⟨(p, 2), hp.1, hp.2, .inr (.inr rfl)⟩, rfl, rfl⟩)
      · have q1 : (s4 == 12) = false := ieq_ff k1
        (repeat (first | refine j0 ?_ | refine q7 rfl ?_ | refine z7 rfl ?_ | refine j6 ?_ | (refine j4 fun K hK => ?_) | (refine x5 (by kernel_rfl) (by kernel_rfl) fun K hK => ?_) | ((first | refine z6 ?_ | refine x6 ?_ | ((first | refine z2 (hK _ ?_) | refine q6 (hK _ _ (j5 (by kernel_rfl)) ?_)); clear hK K)); (first | show AWP _ _ _ _ _ | ((try simp only [q8]); first | show loopQ _ _ _ _ _ _ | show cutQ _ _ _ _ | show AWP _ _ _ _ _))) | ((first | refine x7 [11] rfl ?_ | refine j7 [11] rfl ?_); simp (maxSteps := 2000000) (disch := omega) only [go_sem, seval, pnP, pnM, pnP1, pnM1, q0, q1]; (repeat (first | refine ⟨by omega, ?_⟩ | refine ⟨True.intro, ?_⟩)))))
        exact x8 (retM_of [_, _] [(1000, _)] ⟨rfl, rfl, trivial⟩ (by simp [AL.look] <;> first | rfl | exact ⟨rfl, rfl⟩) ⟨⟨(p, 0), hp.1, hp.2, .inl rfl⟩, rfl, rfl⟩)
  · (repeat (first | refine j0 ?_ | refine q7 rfl ?_ | refine z7 rfl ?_ | refine j6 ?_ | (refine j4 fun K hK => ?_) | (refine x5 (by kernel_rfl) (by kernel_rfl) fun K hK => ?_) | ((first | refine z6 ?_ | refine x6 ?_ | ((first | refine z2 (hK _ ?_) | refine q6 (hK _ _ (j5 (by kernel_rfl)) ?_)); clear hK K)); (first | show AWP _ _ _ _ _ | ((try simp only [q8]); first | show loopQ _ _ _ _ _ _ | show cutQ _ _ _ _ | show AWP _ _ _ _ _))) | ((first | refine x7 [11] rfl ?_ | refine j7 [11] rfl ?_); simp (maxSteps := 2000000) (disch := omega) only [go_sem, seval, pnP, pnM, pnP1, pnM1]; (repeat (first | refine ⟨by omega, ?_⟩ | refine ⟨True.intro, ?_⟩)))))
    unfold swC at *
    (refine walkS_ex (step_mcallX [(1000, 1000), (1001, 11)] rfl rfl rfl rfl rfl rfl (med (a + d) (a + 2 * d) (a + 3 * d) 0 (by omega) (by omega) (by omega)) (fun _ => rfl) (j11 (by repeat (first | exact trivial | refine ⟨rfl, ?_⟩)) (by kernel_rfl)) (fun _ => (j11 (by repeat (first | exact trivial | refine ⟨rfl, ?_⟩)) (by kernel_rfl)))) ?_); rintro ⟨⟨p,s4⟩,h4⟩; simp (maxSteps := 2000000) (disch := omega) only [go_sem, seval, pnP, pnM, pnP1, pnM1]
    simp only [] at h4
    have hp : a ≤ p ∧ p < b := by rcases h4 with rfl | rfl | rfl <;> omega
    by_cases k0 : s4 = 0
    · have q0 : (s4 == 0) = true := ieq_tt k0
      (repeat (first | refine j0 ?_ | refine q7 rfl ?_ | refine z7 rfl ?_ | refine j6 ?_ | (refine j4 fun K hK => ?_) | (refine x5 (by kernel_rfl) (by kernel_rfl) fun K hK => ?_) | ((first | refine z6 ?_ | refine x6 ?_ | ((first | refine z2 (hK _ ?_) | refine q6 (hK _ _ (j5 (by kernel_rfl)) ?_)); clear hK K)); (first | show AWP _ _ _ _ _ | ((try simp only [q8]); first | show loopQ _ _ _ _ _ _ | show cutQ _ _ _ _ | show AWP _ _ _ _ _))) | ((first | refine x7 [11] rfl ?_ | refine j7 [11] rfl ?_); simp (maxSteps := 2000000) (disch := omega) only [go_sem, seval, pnP, pnM, pnP1, pnM1, q0]; (repeat (first | refine ⟨by omega, ?_⟩ | refine ⟨True.intro, ?_⟩)))))
      exact x8 (retM_of [_, _] [(1000, _)] ⟨rfl, rfl, trivial⟩ (by simp [AL.look] <;> first | rfl | exact ⟨rfl, rfl⟩) ⟨⟨(p, 1), hp.1, hp.2, .inr (.inl rfl)⟩, rfl, rfl⟩)
    · have q0 : (s4 == 0) = false := ieq_ff k0
      by_cases k1 : s4 = 12
      · have q1 : (s4 == 12) = true := ieq_tt k1
        (repeat (first | refine j0 ?_ | refine q7 rfl ?_ | refine z7 rfl ?_ | refine j6 ?_ | (refine j4 fun K hK => ?_) | (refine x5 (by kernel_rfl) (by kernel_rfl) fun K hK => ?_) | ((first | refine z6 ?_ | refine x6 ?_ | ((first | refine z2 (hK _ ?_) | refine q6 (hK _ _ (j5 (by kernel_rfl)) ?_)); clear hK K)); (first | show AWP _ _ _ _ _ | ((try simp only [q8]); first | show loopQ _ _ _ _ _ _ | show cutQ _ _ _ _ | show AWP _ _ _ _ _))) | ((first | refine x7 [11] rfl ?_ | refine j7 [11] rfl ?_); simp (maxSteps := 2000000) (disch := omega) only [go_sem, seval, pnP, pnM, pnP1, pnM1, q0, q1]; (repeat (first | refine ⟨by omega, ?_⟩ | refine ⟨True.intro, ?_⟩)))))
        exact x8 (retM_of [_, _] [(1000, _)] ⟨rfl, rfl, trivial⟩ (by simp [AL.look] <;> first | rfl | exact ⟨rfl, rfl⟩) ⟨⟨(p, 2), hp.1, hp.2, .inr (.inr rfl)⟩, rfl, rfl⟩)
      · have q1 : (s4 == 12) = false := ieq_ff k1
        (repeat (first | refine j0 ?_ | refine q7 rfl ?_ | refine z7 rfl ?_ | refine j6 ?_ | (refine j4 fun K hK => ?_) | (refine x5 (by kernel_rfl) (by kernel_rfl) fun K hK => ?_) | ((first | refine z6 ?_ | refine x6 ?_ | ((first | refine z2 (hK _ ?_) | refine q6 (hK _ _ (j5 (by kernel_rfl)) ?_)); clear hK K)); (first | show AWP _ _ _ _ _ | ((try simp only [q8]); first | show loopQ _ _ _ _ _ _ | show cutQ _ _ _ _ | show AWP _ _ _ _ _))) | ((first | refine x7 [11] rfl ?_ | refine j7 [11] rfl ?_); simp (maxSteps := 2000000) (disch := omega) only [go_sem, seval, pnP, pnM, pnP1, pnM1, q0, q1]; (repeat (first | refine ⟨by omega, ?_⟩ | refine ⟨True.intro, ?_⟩)))))
        exact x8 (retM_of [_, _] [(1000, _)] ⟨rfl, rfl, trivial⟩ (by simp [AL.look] <;> first | rfl | exact ⟨rfl, rfl⟩) ⟨⟨(p, 0), hp.1, hp.2, .inl rfl⟩, rfl, rfl⟩)
end Go.Proofs.Ytbiildleaelodaa
set_option linter.unusedSimpArgs false
set_option linter.unusedVariables false
namespace Go.Proofs.Ytbiildleaelodaa
open Go.Shelf Go.Proofs Go.Proofs.Ytbiildleaelodaa.AL
def bitsL_ren : Go.Shelf.Ren := ⟨fun | 125 => 85 | 128 => 118 | 129 => 119 | n => n, fun | 3 => 3 | 4 => 4 | 5 => 5 | 9 => 9 | 46 => 94 | 51 => 178 | 53 => 23 | n => n, fun n => n⟩
theorem bitsL_lay : Lays.n125 Try.prog bitsL_ren where
  mixed := by kernel_rfl
  f125 := Try.func85.trans (congrArg some (by kernel_rfl))
  f128 := Try.func118.trans (congrArg some (by kernel_rfl))
  f129 := Try.func119.trans (congrArg some (by kernel_rfl))
  t3 := Try.underlying3
  a3 := Try.isAgg3
  z3 := Try.sizeOf3
  v3 := Try.zeroValue3
  t4 := Try.underlying4
  a4 := Try.isAgg4
  z4 := Try.sizeOf4
  v4 := Try.zeroValue4
  t5 := Try.underlying5
  a5 := Try.isAgg5
  z5 := Try.sizeOf5
  v5 := Try.zeroValue5
  t9 := Try.underlying9
  a9 := Try.isAgg9
  z9 := Try.sizeOf9
  v9 := Try.zeroValue9
  t46 := Try.underlying94
  a46 := Try.isAgg94
  z46 := Try.sizeOf94
  v46 := Try.zeroValue94
  t51 := Try.underlying178
  a51 := Try.isAgg178
  z51 := Try.sizeOf178
  v51 := Try.zeroValue178
  t53 := Try.underlying23
  a53 := Try.isAgg23
  z53 := Try.sizeOf23
  v53 := Try.zeroValue23
theorem acalls_const {P : Program} {f : FuncId} {xs : List Value} {v : Value} {rs : List PV} (hf : ∀ (args : Array Value) (w : World), (callFunc f args).run P w = .ok (.enter f args) w)
    (h : ∀ w, Calls P f xs.toArray w fun e w' => e = .returned v ∧ w' = w) (hv : ∀ w g, RelR w g v rs) : ACalls P f (xs.map fun x => .d (.v x)) (· = rs) := by
  rw [acalls_iff]
  intro w g vs hz hr
  have e := relPs_vals xs vs hr
  subst e
  unfold CallRes
  rw [hf]
  refine (h w).mono fun e w' ⟨h1, h2⟩ => ?_
  subst h2
  exact ⟨v, h1, g, rs, Ext.refl hz, rfl, hv _ _⟩
theorem bitsLen_c (n : Nat) (hn : n ≤ 1099511627776) : ACalls Try.prog 85 [.d (.v (.int .u64 (n : Int)))] (· = [.d (.v (.int .i64 (Go.Lib.bitLen n : Nat)))]) := by
  refine acalls_const (xs := [.int .u64 (n : Int)]) (v := .int .i64 (Go.Lib.bitLen n : Nat)) (fun args w => callFunc_enter args w Try.func85 rfl (by kernel_rfl)) (fun w => ?_) (fun w g => .d _ _ (.v _ rfl))
  have h := Any.bits_Len (P := Try.prog) (ρ := bitsL_ren) bitsL_lay (n : Int) w (by omega) (by omega)
  rw [Int.toNat_natCast] at h
  exact h
theorem bitLen_pow {n : Nat} (h0 : n ≠ 0) (h : n < 2 ^ 64) : 2 ^ Go.Lib.bitLen n ≤ 2 * n ∧ 1 ≤ Go.Lib.bitLen n ∧ n < 2 ^ Go.Lib.bitLen n := by
  obtain ⟨h1, h2, h3⟩ := Go.Lib.bitLenAux_bounds 64 n h h0
  unfold Go.Lib.bitLen
  refine ⟨?_, h1, h3⟩
  obtain ⟨k, hk⟩ : ∃ k, Go.Lib.bitLenAux 64 n = k + 1 := ⟨Go.Lib.bitLenAux 64 n - 1, by omega⟩
  rw [hk] at h2 ⊢
  rw [Nat.add_sub_cancel] at h2
  rw [Nat.pow_succ]; omega
end Go.Proofs.Ytbiildleaelodaa
set_option linter.unusedSimpArgs false
set_option linter.unusedVariables false
namespace Go.Proofs.Ytbiildleaelodaa
open Go.Proofs.Ytbiildleaelodaa.AL
def rvI (x : Nat → Nat) (n gen a b : Nat) (s : {s : Nat × Nat × (Nat → Nat) // a ≤ s.1 ∧ a ≤ s.2.1 ∧ s.2.1 < b ∧ PE a b x s.2.2}) : ASt :=
  ⟨[(9, .p (.d (.v (.int .i64 (s.val.2.1 : Int))))), (8, .p (.d (.v (.int .i64 (s.val.1 : Int))))), (0, .ow 1000 gen 1 n)],
   [(1000, .own 3 1 n gen (rowN s.val.2.2))]⟩
set_option maxRecDepth 100000 in
set_option maxHeartbeats 2000000 in
theorem reverse_c (f : PV) (x : Nat → Nat) (n gen a b : Nat) (hab : a < b) (hb : b ≤ n) (hn : n ≤ 1099511627776) :
    MCalls Try.prog 114 [.ow 1000 gen 1 n, .p (.d (.v (.int .i64 (a : Int)))), .p (.d (.v (.int .i64 (b : Int)))), .p f] [(1000, .own 3 1 n gen (rowN x))]
      (fun rs M => ∃ y : {y : Nat → Nat // PE a b x y}, rs = [] ∧ M = [(1000, .own 3 1 n gen (rowN y.val))]) := by
  refine mcalls_of_awp Try.func114 rfl (by decide +kernel) (by rw [Try.ntmps114]; simp) (fun l X h => by simp only [AL.look] at h; (repeat' split at h); all_goals first | omega | cases h) ?_; rw [Try.ntmps114]; simp only [frA]
  (repeat (first | refine j0 ?_ | refine q7 rfl ?_ | refine z7 rfl ?_ | refine j6 ?_ | (refine j4 fun K hK => ?_) | (refine x5 (by kernel_rfl) (by kernel_rfl) fun K hK => ?_) | ((first | refine z6 ?_ | refine x6 ?_ | ((first | refine z2 (hK _ ?_) | refine q6 (hK _ _ (j5 (by kernel_rfl)) ?_)); clear hK K)); (first | show AWP _ _ _ _ _ | ((try simp only [q8]); first | show loopQ _ _ _ _ _ _ | show cutQ _ _ _ _ | show AWP _ _ _ _ _))) | ((first | refine x7 [] rfl ?_ | refine j7 [] rfl ?_); simp (maxSteps := 2000000) (disch := omega) only [go_sem, seval, pnP, pnM, pnP1, pnM1]; (repeat (first | refine ⟨by omega, ?_⟩ | refine ⟨True.intro, ?_⟩)))))
  refine awp_loop (rvI x n gen a b) (fun s => s.val.2.1 + 1 - s.val.1) ⟨(a, b - 1, x), Nat.le_refl _, by simp only []; omega, by simp only []; omega, PE.refl _ _ _⟩ ?_ (fun s => ?_)
  · unfold rvI
    refine Weak.list ?_ ?_; (all_goals simp (disch := omega) only [AllF, AllL, q9, x9, j8, exists_eq_left', Option.some.injEq, go_sem, seval, pnP, pnM, pnP1, pnM1]); (all_goals (repeat' (with_reducible apply And.intro))); (all_goals try (first | exact z8 rfl | (refine j9 ?_; omega) | (refine z8 ?_; simp; done)))
  obtain ⟨⟨i, j, y⟩, hi, hj, hj2, hpe⟩ := s
  unfold rvI
  simp only [] at hi hj hj2 hpe
  by_cases h : i < j
  · obtain ⟨j, rfl⟩ : ∃ k, j = k + 1 := ⟨j - 1, by omega⟩
    have r1 := rowN_at y i
    have r2 := rowN_at y (j + 1)
    (repeat (first | refine j0 ?_ | refine q7 rfl ?_ | refine z7 rfl ?_ | refine j6 ?_ | (refine j4 fun K hK => ?_) | (refine x5 (by kernel_rfl) (by kernel_rfl) fun K hK => ?_) | ((first | refine z6 ?_ | refine x6 ?_ | ((first | refine z2 (hK _ ?_) | refine q6 (hK _ _ (j5 (by kernel_rfl)) ?_)); clear hK K)); (first | show AWP _ _ _ _ _ | ((try simp only [q8]); first | show loopQ _ _ _ _ _ _ | show cutQ _ _ _ _ | show AWP _ _ _ _ _))) | ((first | refine x7 [] rfl ?_ | refine j7 [] rfl ?_); simp (maxSteps := 2000000) (disch := omega) only [go_sem, seval, pnP, pnM, pnP1, pnM1, r1, r2]; (repeat (first | refine ⟨by omega, ?_⟩ | refine ⟨True.intro, ?_⟩)))))
    refine ⟨⟨(i + 1, j, swp y i (j + 1)), by simp only []; omega, by simp only []; omega, by simp only []; omega, hpe.trans (PE.swp (by omega) (by omega) (by omega) (by omega))⟩, by simp only []; omega, ?_⟩
    refine Weak.list ?_ ?_; (all_goals simp (disch := omega) only [AllF, AllL, q9, x9, j8, exists_eq_left', Option.some.injEq, go_sem, seval, pnP, pnM, pnP1, pnM1, r1, r2]); (all_goals (repeat' (with_reducible apply And.intro))); (all_goals try (first | exact z8 rfl | (refine j9 ?_; omega) | (refine z8 ?_; simp; done)))
    exact lle_own rfl rfl (fun k _ => putN_two y i (j + 1) k)
  · (repeat (first | refine j0 ?_ | refine q7 rfl ?_ | refine z7 rfl ?_ | refine j6 ?_ | (refine j4 fun K hK => ?_) | (refine x5 (by kernel_rfl) (by kernel_rfl) fun K hK => ?_) | ((first | refine z6 ?_ | refine x6 ?_ | ((first | refine z2 (hK _ ?_) | refine q6 (hK _ _ (j5 (by kernel_rfl)) ?_)); clear hK K)); (first | show AWP _ _ _ _ _ | ((try simp only [q8]); first | show loopQ _ _ _ _ _ _ | show cutQ _ _ _ _ | show AWP _ _ _ _ _))) | ((first | refine x7 [] rfl ?_ | refine j7 [] rfl ?_); simp (maxSteps := 2000000) (disch := omega) only [go_sem, seval, pnP, pnM, pnP1, pnM1]; (repeat (first | refine ⟨by omega, ?_⟩ | refine ⟨True.intro, ?_⟩)))))
    (first | (refine z2 (hK _ ?_); refine And.left (retM_void (l := 1000) rfl rfl ?_)) | (refine x6 ?_; refine And.left (retM_void (l := 1000) rfl rfl ?_)) | (refine z6 ?_; refine And.left (retM_void (l := 1000) rfl rfl ?_)) | (refine x8 ?_; refine And.right (retM_void (l := 1000) rfl rfl ?_)) | refine And.left (retM_void (l := 1000) rfl rfl ?_))
    exact ⟨⟨y, hpe⟩, rfl, rfl⟩
theorem u64_wrap (n : Int) : 0 ≤ IntKind.u64.wrap n ∧ IntKind.u64.wrap n < 18446744073709551616 := by
  simp only [IntKind.wrap, IntKind.bits, IntKind.signed]
  simp; omega
theorem u64_bits (op : BinOp) (a b : Int) : 0 ≤ bits op .u64 a b ∧ bits op .u64 a b < 18446744073709551616 := by
  unfold bits
  exact u64_wrap _
theorem and_le_u64 (r : Int) (k : Nat) (hk : k < 18446744073709551616) : ∃ z : Nat, bits .and .u64 r (k : Int) = (z : Int) ∧ z ≤ k := by
  refine ⟨(BitVec.ofInt 64 r &&& BitVec.ofInt 64 (k : Int)).toNat, ?_, ?_⟩
  · show IntKind.u64.wrap ((BitVec.ofInt 64 r &&& BitVec.ofInt 64 (k : Int)).toNat : Int) = _
    exact wu (by omega)
  · rw [BitVec.toNat_and]
    refine Nat.le_trans Nat.and_le_right ?_
    rw [BitVec.toNat_ofInt]
    omega
theorem nextPow_c (n : Nat) (h0 : n ≠ 0) (hn : n ≤ 1099511627776) : ACalls Try.prog 131 [.d (.v (.int .i64 (n : Int)))] (· = [.d (.v (.int .u64 ((2 ^ Go.Lib.bitLen n : Nat) : Int)))]) := by
  have b := bitsLen_c n hn
  obtain ⟨p1, p2, p3⟩ := bitLen_pow h0 (show n < 2 ^ 64 by omega)
  have h64 : Go.Lib.bitLen n ≤ 41 := by
    have h2 : 2 ^ Go.Lib.bitLen n ≤ 2 ^ 41 := by omega
    exact (Nat.pow_le_pow_iff_right (by omega)).1 h2
  generalize Go.Lib.bitLen n = L at *
  have e1 : IntKind.u64.wrap (n : Int) = (n : Int) := wu (by omega)
  have e2 : ((L : Int).toNat) = L := by omega
  have e3 : IntKind.u64.wrap (1 * 2 ^ min L 64) = ((2 ^ L : Nat) : Int) := by
    rw [Nat.min_eq_left (by omega), Int.one_mul]
    have : ((2 : Int) ^ L) = ((2 ^ L : Nat) : Int) := by simp
    rw [this]
    exact wu (by omega)
  refine j10 Try.func131 rfl (by decide +kernel) (by rw [Try.ntmps131]; simp) ?_; rw [Try.ntmps131]; simp only [frOf]
  (repeat (first | refine j0 ?_ | refine q7 rfl ?_ | refine z7 rfl ?_ | refine j6 ?_ | (refine j4 fun K hK => ?_) | (refine x5 (by kernel_rfl) (by kernel_rfl) fun K hK => ?_) | ((first | refine z6 ?_ | refine x6 ?_ | ((first | refine z2 (hK _ ?_) | refine q6 (hK _ _ (j5 (by kernel_rfl)) ?_)); clear hK K)); (first | show AWP _ _ _ _ _ | ((try simp only [q8]); first | show loopQ _ _ _ _ _ _ | show cutQ _ _ _ _ | show AWP _ _ _ _ _))) | ((first | refine q10 rfl rfl rfl ?_ | refine z10 rfl rfl rfl ?_); simp (maxSteps := 2000000) (disch := omega) only [go_sem, seval, pnP, pnM, pnP1, pnM1, e1, e2, e3]; (first | refine ⟨_, b, ?_⟩)) | ((first | refine x7 [] rfl ?_ | refine j7 [] rfl ?_); simp (maxSteps := 2000000) (disch := omega) only [go_sem, seval, pnP, pnM, pnP1, pnM1, e1, e2, e3]; (repeat (first | refine ⟨by omega, ?_⟩ | refine ⟨True.intro, ?_⟩)))))
  refine x8 ⟨_, ?_, rfl⟩; rw [Try.results131]; simp (disch := omega) only [ResVars, ResVar, ptrLoc, go_sem, seval, pnP, pnM, pnP1, pnM1, e1, e2, e3]
set_option maxRecDepth 100000 in
theorem next_c (v : Int) : MCalls Try.prog 132 [.loc 1000 0] [(1000, .cells 188 [.p (.d (.v (.int .u64 v)))])]
      (fun rs M => ∃ r : {r : Int // 0 ≤ r ∧ r < 18446744073709551616}, rs = [.p (.d (.v (.int .u64 r.val)))] ∧ M = [(1000, .cells 188 [.p (.d (.v (.int .u64 r.val)))])]) := by
  refine mcalls_of_awp Try.func132 rfl (by decide +kernel) (by rw [Try.ntmps132]; simp) (fun l X h => by simp only [AL.look] at h; (repeat' split at h); all_goals first | omega | cases h) ?_; rw [Try.ntmps132]; simp only [frA]
  (repeat (first | refine j0 ?_ | refine q7 rfl ?_ | refine z7 rfl ?_ | refine j6 ?_ | (refine j4 fun K hK => ?_) | (refine x5 (by kernel_rfl) (by kernel_rfl) fun K hK => ?_) | ((first | refine z6 ?_ | refine x6 ?_ | ((first | refine z2 (hK _ ?_) | refine q6 (hK _ _ (j5 (by kernel_rfl)) ?_)); clear hK K)); (first | show AWP _ _ _ _ _ | ((try simp only [q8]); first | show loopQ _ _ _ _ _ _ | show cutQ _ _ _ _ | show AWP _ _ _ _ _))) | ((first | refine x7 [1000] rfl ?_ | refine j7 [1000] rfl ?_); simp (maxSteps := 2000000) (disch := omega) only [go_sem, seval, pnP, pnM, pnP1, pnM1]; (repeat (first | refine ⟨by omega, ?_⟩ | refine ⟨True.intro, ?_⟩)))))
  exact x8 (retM_of [_] [(1000, _)] ⟨rfl, trivial⟩ (by simp [AL.look] <;> first | rfl | exact ⟨rfl, rfl⟩) ⟨⟨_, u64_bits _ _ _⟩, rfl, rfl⟩)
def bpI (x : Nat → Nat) (n gen a b p m : Nat) (s : {s : Nat × Int × (Nat → Nat) // p ≤ s.1 + 1 ∧ s.1 ≤ p + 2 ∧ PE a b x s.2.2}) : ASt :=
  ⟨[(11, .p (.d (.v (.int .i64 (s.val.1 : Int))))), (10, .p (.d (.v (.int .u64 (m : Int))))), (9, .loc 9 0), (8, .p (.d (.v (.int .i64 ((b : Int) - a))))), (1, .p (.d (.v (.int .i64 (a : Int))))), (0, .ow 1000 gen 1 n)],
   [(1000, .own 3 1 n gen (rowN s.val.2.2)), (9, .cells 188 [.p (.d (.v (.int .u64 s.val.2.1)))])]⟩
set_option maxRecDepth 100000 in
set_option maxHeartbeats 4000000 in
theorem break_c (f : PV) (x : Nat → Nat) (n gen a b : Nat) (hab : a + 12 < b) (hb : b ≤ n) (hn : n ≤ 1099511627776) :
    MCalls Try.prog 112 [.ow 1000 gen 1 n, .p (.d (.v (.int .i64 (a : Int)))), .p (.d (.v (.int .i64 (b : Int)))), .p f] [(1000, .own 3 1 n gen (rowN x))]
      (fun rs M => ∃ y : {y : Nat → Nat // PE a b x y}, rs = [] ∧ M = [(1000, .own 3 1 n gen (rowN y.val))]) := by
  have np := nextPow_c (b - a) (by omega) (by omega)
  obtain ⟨p1, p2, p3⟩ := bitLen_pow (n := b - a) (by omega) (by omega)
  generalize 2 ^ Go.Lib.bitLen (b - a) = m at np p1 p3
  rw [show ((b - a : Nat) : Int) = (b : Int) - a by omega] at np
  have q4 : ((b : Int) - a).tdiv 4 = (((b - a) / 4 : Nat) : Int) := by
    rw [show (b : Int) - a = ((b - a : Nat) : Int) by omega, Int.tdiv_eq_ediv_of_nonneg (by omega)]; omega
  have qd : 4 * ((b - a) / 4) ≤ b - a ∧ b - a < 4 * ((b - a) / 4) + 4 := by omega
  generalize (b - a) / 4 = d at q4 qd
  have e1 : IntKind.u64.wrap ((b : Int) - a) = (b : Int) - a := wu (by omega)
  refine mcalls_of_awp Try.func112 rfl (by decide +kernel) (by rw [Try.ntmps112]; simp) (fun l X h => by simp only [AL.look] at h; (repeat' split at h); all_goals first | omega | cases h) ?_; rw [Try.ntmps112]; simp only [frA]
  (repeat (first | refine j0 ?_ | refine q7 rfl ?_ | refine z7 rfl ?_ | refine j6 ?_ | (refine j4 fun K hK => ?_) | (refine x5 (by kernel_rfl) (by kernel_rfl) fun K hK => ?_) | ((first | refine z6 ?_ | refine x6 ?_ | ((first | refine z2 (hK _ ?_) | refine q6 (hK _ _ (j5 (by kernel_rfl)) ?_)); clear hK K)); (first | show AWP _ _ _ _ _ | ((try simp only [q8]); first | show loopQ _ _ _ _ _ _ | show cutQ _ _ _ _ | show AWP _ _ _ _ _))) | ((first | refine q10 rfl rfl rfl ?_ | refine z10 rfl rfl rfl ?_); simp (maxSteps := 2000000) (disch := omega) only [go_sem, seval, pnP, pnM, pnP1, pnM1, q4, e1]; (first | refine ⟨_, np, ?_⟩)) | ((first | refine x7 [9] rfl ?_ | refine j7 [9] rfl ?_); simp (maxSteps := 2000000) (disch := omega) only [go_sem, seval, pnP, pnM, pnP1, pnM1, q4, e1]; (repeat (first | refine ⟨by omega, ?_⟩ | refine ⟨True.intro, ?_⟩)))))
  refine awp_loop (bpI x n gen a b (a + 2 * d) m) (fun s => a + 2 * d + 2 - s.val.1) ⟨(a + 2 * d - 1, (b : Int) - a, x), by simp only []; omega, by simp only []; omega, PE.refl _ _ _⟩ ?_ (fun s => ?_)
  · unfold bpI
    refine Weak.list ?_ ?_; (all_goals simp (disch := omega) only [AllF, AllL, q9, x9, j8, exists_eq_left', Option.some.injEq, go_sem, seval, pnP, pnM, pnP1, pnM1, q4, e1]); (all_goals (repeat' (with_reducible apply And.intro))); (all_goals try (first | exact z8 rfl | (refine j9 ?_; omega) | (refine z8 ?_; simp; done)))
  obtain ⟨⟨i, v, y⟩, hi, hi2, hpe⟩ := s
  unfold bpI
  simp only [] at hi hi2 hpe
  by_cases h : i ≤ a + 2 * d + 1
  · (repeat (first | refine j0 ?_ | refine q7 rfl ?_ | refine z7 rfl ?_ | refine j6 ?_ | (refine j4 fun K hK => ?_) | (refine x5 (by kernel_rfl) (by kernel_rfl) fun K hK => ?_) | ((first | refine z6 ?_ | refine x6 ?_ | ((first | refine z2 (hK _ ?_) | refine q6 (hK _ _ (j5 (by kernel_rfl)) ?_)); clear hK K)); (first | show AWP _ _ _ _ _ | ((try simp only [q8]); first | show loopQ _ _ _ _ _ _ | show cutQ _ _ _ _ | show AWP _ _ _ _ _))) | ((first | refine x7 [9] rfl ?_ | refine j7 [9] rfl ?_); simp (maxSteps := 2000000) (disch := omega) only [go_sem, seval, pnP, pnM, pnP1, pnM1, q4, e1]; (repeat (first | refine ⟨by omega, ?_⟩ | refine ⟨True.intro, ?_⟩)))))
    (refine walkS_ex (step_mcallX [(1000, 9)] rfl rfl rfl rfl rfl rfl (next_c v) (fun _ => rfl) (j11 (by repeat (first | exact trivial | refine ⟨rfl, ?_⟩)) (by kernel_rfl)) (fun _ => (j11 (by repeat (first | exact trivial | refine ⟨rfl, ?_⟩)) (by kernel_rfl)))) ?_); rintro ⟨r,hr,hr2⟩; simp (maxSteps := 2000000) (disch := omega) only [go_sem, seval, pnP, pnM, pnP1, pnM1, q4, e1]
    obtain ⟨z, hz, hz2⟩ := and_le_u64 r (m - 1) (by omega)
    rw [show ((m - 1 : Nat) : Int) = (m : Int) - 1 by omega] at hz
    have e2 : IntKind.u64.wrap ((m : Int) - 1) = (m : Int) - 1 := wu (by omega)
    (repeat ((fail_if_success (show AWP _ _ (.region 8 _ _) _ _)); first | refine j0 ?_ | refine q7 rfl ?_ | refine z7 rfl ?_ | refine j6 ?_ | (refine j4 fun K hK => ?_) | (refine x5 (by kernel_rfl) (by kernel_rfl) fun K hK => ?_) | ((first | refine z6 ?_ | refine x6 ?_ | ((first | refine z2 (hK _ ?_) | refine q6 (hK _ _ (j5 (by kernel_rfl)) ?_)); clear hK K)); (first | show AWP _ _ _ _ _ | ((try simp only [q8]); first | show loopQ _ _ _ _ _ _ | show cutQ _ _ _ _ | show AWP _ _ _ _ _))) | ((first | refine x7 [9] rfl ?_ | refine j7 [9] rfl ?_); simp (maxSteps := 2000000) (disch := omega) only [go_sem, seval, pnP, pnM, pnP1, pnM1, q4, e2, hz]; (repeat (first | refine ⟨by omega, ?_⟩ | refine ⟨True.intro, ?_⟩)))))
    refine awp_mid (fun k : {k : Nat // k < b - a} => ⟨[(12, .p (.d (.v (.int .i64 (k.val : Int))))), (11, .p (.d (.v (.int .i64 (i : Int))))), (10, .p (.d (.v (.int .u64 (m : Int))))), (9, .loc 9 0), (8, .p (.d (.v (.int .i64 ((b : Int) - a))))), (1, .p (.d (.v (.int .i64 (a : Int))))), (0, .ow 1000 gen 1 n)],
        [(1000, .own 3 1 n gen (rowN y)), (9, .cells 188 [.p (.d (.v (.int .u64 r)))])]⟩) ?_ ?_
    · by_cases hk : z ≥ b - a
      · (repeat (first | refine j0 ?_ | refine q7 rfl ?_ | refine z7 rfl ?_ | refine j6 ?_ | (refine j4 fun K hK => ?_) | (refine x5 (by kernel_rfl) (by kernel_rfl) fun K hK => ?_) | ((first | refine z6 ?_ | refine x6 ?_ | ((first | refine z2 (hK _ ?_) | refine q6 (hK _ _ (j5 (by kernel_rfl)) ?_)); clear hK K)); (first | show AWP _ _ _ _ _ | ((try simp only [q8]); first | show loopQ _ _ _ _ _ _ | show cutQ _ _ _ _ | show AWP _ _ _ _ _))) | ((first | refine x7 [9] rfl ?_ | refine j7 [9] rfl ?_); simp (maxSteps := 2000000) (disch := omega) only [go_sem, seval, pnP, pnM, pnP1, pnM1, q4, e2, hz]; (repeat (first | refine ⟨by omega, ?_⟩ | refine ⟨True.intro, ?_⟩)))))
        (show cutQ _ _ .normal _); refine cut_n (⟨z - (b - a), by omega⟩) ?_
        refine Weak.list ?_ ?_; (all_goals simp (disch := omega) only [AllF, AllL, q9, x9, j8, exists_eq_left', Option.some.injEq, go_sem, seval, pnP, pnM, pnP1, pnM1, q4, e2, hz]); (all_goals (repeat' (with_reducible apply And.intro))); (all_goals try (first | exact z8 rfl | (refine j9 ?_; omega) | (refine z8 ?_; simp; done)))
      · (repeat (first | refine j0 ?_ | refine q7 rfl ?_ | refine z7 rfl ?_ | refine j6 ?_ | (refine j4 fun K hK => ?_) | (refine x5 (by kernel_rfl) (by kernel_rfl) fun K hK => ?_) | ((first | refine z6 ?_ | refine x6 ?_ | ((first | refine z2 (hK _ ?_) | refine q6 (hK _ _ (j5 (by kernel_rfl)) ?_)); clear hK K)); (first | show AWP _ _ _ _ _ | ((try simp only [q8]); first | show loopQ _ _ _ _ _ _ | show cutQ _ _ _ _ | show AWP _ _ _ _ _))) | ((first | refine x7 [9] rfl ?_ | refine j7 [9] rfl ?_); simp (maxSteps := 2000000) (disch := omega) only [go_sem, seval, pnP, pnM, pnP1, pnM1, q4, e2, hz]; (repeat (first | refine ⟨by omega, ?_⟩ | refine ⟨True.intro, ?_⟩)))))
        (show cutQ _ _ .normal _); refine cut_n (⟨z, by omega⟩) ?_
        refine Weak.list ?_ ?_; (all_goals simp (disch := omega) only [AllF, AllL, q9, x9, j8, exists_eq_left', Option.some.injEq, go_sem, seval, pnP, pnM, pnP1, pnM1, q4, e2, hz]); (all_goals (repeat' (with_reducible apply And.intro))); (all_goals try (first | exact z8 rfl | (refine j9 ?_; omega) | (refine z8 ?_; simp; done)))
    · rintro ⟨k, hk⟩
      have r1 := rowN_at y i
      have r2 := rowN_at y (a + k)
      (repeat (first | refine j0 ?_ | refine q7 rfl ?_ | refine z7 rfl ?_ | refine j6 ?_ | (refine j4 fun K hK => ?_) | (refine x5 (by kernel_rfl) (by kernel_rfl) fun K hK => ?_) | ((first | refine z6 ?_ | refine x6 ?_ | ((first | refine z2 (hK _ ?_) | refine q6 (hK _ _ (j5 (by kernel_rfl)) ?_)); clear hK K)); (first | show AWP _ _ _ _ _ | ((try simp only [q8]); first | show loopQ _ _ _ _ _ _ | show cutQ _ _ _ _ | show AWP _ _ _ _ _))) | ((first | refine x7 [9] rfl ?_ | refine j7 [9] rfl ?_); simp (maxSteps := 2000000) (disch := omega) only [go_sem, seval, pnP, pnM, pnP1, pnM1, r1, r2]; (repeat (first | refine ⟨by omega, ?_⟩ | refine ⟨True.intro, ?_⟩)))))
      refine ⟨⟨(i + 1, r, swp y i (a + k)), by simp only []; omega, by simp only []; omega, hpe.trans (PE.swp (by omega) (by omega) (by omega) (by omega))⟩, by simp only []; omega, ?_⟩
      refine Weak.list ?_ ?_; (all_goals simp (disch := omega) only [AllF, AllL, q9, x9, j8, exists_eq_left', Option.some.injEq, go_sem, seval, pnP, pnM, pnP1, pnM1, r1, r2]); (all_goals (repeat' (with_reducible apply And.intro))); (all_goals try (first | exact z8 rfl | (refine j9 ?_; omega) | (refine z8 ?_; simp; done)))
      exact lle_own rfl rfl (fun k' _ => putN_two y i (a + k) k')
  · (repeat (first | refine j0 ?_ | refine q7 rfl ?_ | refine z7 rfl ?_ | refine j6 ?_ | (refine j4 fun K hK => ?_) | (refine x5 (by kernel_rfl) (by kernel_rfl) fun K hK => ?_) | ((first | refine z6 ?_ | refine x6 ?_ | ((first | refine z2 (hK _ ?_) | refine q6 (hK _ _ (j5 (by kernel_rfl)) ?_)); clear hK K)); (first | show AWP _ _ _ _ _ | ((try simp only [q8]); first | show loopQ _ _ _ _ _ _ | show cutQ _ _ _ _ | show AWP _ _ _ _ _))) | ((first | refine x7 [9] rfl ?_ | refine j7 [9] rfl ?_); simp (maxSteps := 2000000) (disch := omega) only [go_sem, seval, pnP, pnM, pnP1, pnM1, q4]; (repeat (first | refine ⟨by omega, ?_⟩ | refine ⟨True.intro, ?_⟩)))))
    (first | (refine z2 (hK _ ?_); refine And.left (retM_void (l := 1000) rfl rfl ?_)) | (refine x6 ?_; refine And.left (retM_void (l := 1000) rfl rfl ?_)) | (refine z6 ?_; refine And.left (retM_void (l := 1000) rfl rfl ?_)) | (refine x8 ?_; refine And.right (retM_void (l := 1000) rfl rfl ?_)) | refine And.left (retM_void (l := 1000) rfl rfl ?_))
    exact ⟨⟨y, hpe⟩, rfl, rfl⟩
end Go.Proofs.Ytbiildleaelodaa
set_option linter.unusedSimpArgs false
set_option linter.unusedVariables false
namespace Go.Proofs.Ytbiildleaelodaa
open Go.Proofs.Ytbiildleaelodaa.AL
structure PI (key : Nat → Int) (a b : Nat) (x y : Nat → Nat) (i q : Nat) : Prop where
  h1 : a + 1 ≤ i
  h2 : i ≤ q
  h3 : q ≤ b
  pe : PE a b x y
  lo : ∀ k, a + 1 ≤ k → k < i → key (y k) < key (y a)
  hi : ∀ k, q ≤ k → k < b → key (y a) ≤ key (y k)
theorem PI.start {key : Nat → Int} {a b p : Nat} {x : Nat → Nat} (h : a < b) (h1 : a ≤ p) (h2 : p < b) : PI key a b x (swp x a p) (a + 1) b :=
  ⟨Nat.le_refl _, h, Nat.le_refl _, PE.swp (Nat.le_refl _) h h1 h2, fun k k1 k2 => by omega, fun k k1 k2 => by omega⟩
theorem PI.up {key : Nat → Int} {a b i q : Nat} {x y : Nat → Nat} (h : PI key a b x y i q) (hl : i < q) (hk : key (y i) < key (y a)) : PI key a b x y (i + 1) q :=
  ⟨by have := h.h1; omega, hl, h.h3, h.pe, fun k k1 k2 => by
    by_cases e : k = i
    · subst e; exact hk
    · exact h.lo k k1 (by omega), h.hi⟩
theorem PI.down {key : Nat → Int} {a b i q : Nat} {x y : Nat → Nat} (h : PI key a b x y i (q + 1)) (hl : i ≤ q) (hk : ¬ key (y q) < key (y a)) : PI key a b x y i q :=
  ⟨h.h1, hl, by have := h.h3; omega, h.pe, h.lo, fun k k1 k2 => by
    by_cases e : k = q
    · subst e; omega
    · exact h.hi k (by omega) k2⟩
theorem PI.swap {key : Nat → Int} {a b i q : Nat} {x y : Nat → Nat} (h : PI key a b x y i (q + 1)) (hl : i ≤ q) (hi : ¬ key (y i) < key (y a)) (hq : key (y q) < key (y a)) : i + 1 ≤ q ∧ PI key a b x (swp y i q) (i + 1) q := by
  have hne : i ≠ q := fun e => by subst e; exact hi hq
  have g1 := h.h1; have g3 := h.h3
  have ea : swp y i q a = y a := swp_o _ (by omega) (by omega)
  refine ⟨by omega, by omega, by omega, by omega, h.pe.trans (PE.swp (by omega) (by omega) (by omega) (by omega)), fun k k1 k2 => ?_, fun k k1 k2 => ?_⟩
  · rw [ea]
    by_cases e : k = i
    · subst e; rw [swp_l]; exact hq
    · rw [swp_o _ e (by omega)]; exact h.lo k k1 (by omega)
  · rw [ea]
    by_cases e : k = q
    · subst e; rw [swp_r]; omega
    · rw [swp_o _ (by omega) e]; exact h.hi k (by omega) k2
theorem PI.done {key : Nat → Int} {a b q : Nat} {x y : Nat → Nat} (h : PI key a b x y (q + 1) (q + 1)) : a ≤ q ∧ q < b ∧ PE a b x (swp y q a) ∧ Prt key a q b (swp y q a) := by
  have g1 := h.h1; have g3 := h.h3
  have em : swp y q a q = y a := swp_l _ _ _
  refine ⟨by omega, by omega, h.pe.trans (PE.swp (by omega) (by omega) (by omega) (by omega)), ⟨fun k k1 k2 => ?_, fun k k1 k2 => ?_⟩⟩
  · rw [em]
    by_cases e : k = a
    · subst e; rw [swp_r]; exact Int.le_of_lt (h.lo q (by omega) (by omega))
    · rw [swp_o _ (by omega) e]; exact Int.le_of_lt (h.lo k (by omega) (by omega))
  · rw [em, swp_o _ (by omega) (by omega)]
    exact h.hi k (by omega) k2
def ptI (key : Nat → Int) (x y : Nat → Nat) (n gen a b q : Nat) (g : FuncId) (o : PV) (i : {i : Nat // PI key a b x y i q}) : ASt :=
  ⟨[(13, .p (.d (.v (.int .i64 ((q : Int) - 1))))), (12, .p (.d (.v (.int .i64 (i.val : Int))))), (4, .p (.fn (.func g) [o] [])), (1, .p (.d (.v (.int .i64 (a : Int))))), (0, .ow 1000 gen 1 n)],
   [(1000, .own 3 1 n gen (rowN y))]⟩
def ptJ (key : Nat → Int) (x y : Nat → Nat) (n gen a b i : Nat) (g : FuncId) (o : PV) (q : {q : Nat // PI key a b x y i q ∧ (i < q → ¬ key (y i) < key (y a))}) : ASt :=
  ⟨[(13, .p (.d (.v (.int .i64 ((q.val : Int) - 1))))), (12, .p (.d (.v (.int .i64 (i : Int))))), (4, .p (.fn (.func g) [o] [])), (1, .p (.d (.v (.int .i64 (a : Int))))), (0, .ow 1000 gen 1 n)],
   [(1000, .own 3 1 n gen (rowN y))]⟩
def ptK (key : Nat → Int) (x : Nat → Nat) (n gen a b : Nat) (g : FuncId) (o : PV) (s : {s : Nat × Nat × (Nat → Nat) // PI key a b x s.2.2 s.1 s.2.1}) : ASt :=
  ⟨[(13, .p (.d (.v (.int .i64 ((s.val.2.1 : Int) - 1))))), (12, .p (.d (.v (.int .i64 (s.val.1 : Int))))), (4, .p (.fn (.func g) [o] [])), (1, .p (.d (.v (.int .i64 (a : Int))))), (0, .ow 1000 gen 1 n)],
   [(1000, .own 3 1 n gen (rowN s.val.2.2))]⟩
set_option maxRecDepth 100000 in
set_option maxHeartbeats 4000000 in
theorem partition_c {key : Nat → Int} {c : Nat → Nat → Int} {g : FuncId} {o : PV} {N : Nat} (hc : CmpN Try.prog g o N key c) (x : Nat → Nat) (n gen a b p : Nat) (hab : a + 12 < b) (h1 : a ≤ p) (h2 : p < b) (hb : b ≤ n) (hn : n ≤ 1099511627776) (hx : Dom n N x) :
    MCalls Try.prog 117 [.ow 1000 gen 1 n, .p (.d (.v (.int .i64 (a : Int)))), .p (.d (.v (.int .i64 (b : Int)))), .p (.d (.v (.int .i64 (p : Int)))), .p (.fn (.func g) [o] [])] [(1000, .own 3 1 n gen (rowN x))]
      (fun rs M => ∃ r : {r : Nat × Bool × (Nat → Nat) // a ≤ r.1 ∧ r.1 < b ∧ PE a b x r.2.2 ∧ Prt key a r.1 b r.2.2}, rs = [.p (.d (.v (.int .i64 (r.val.1 : Int)))), .p (.d (.v (.bool r.val.2.1)))] ∧ M = [(1000, .own 3 1 n gen (rowN r.val.2.2))]) := by
  have r1 := rowN_at x a
  have r2 := rowN_at x p
  refine mcalls_of_awp Try.func117 rfl (by decide +kernel) (by rw [Try.ntmps117]; simp) (fun l X h => by simp only [AL.look] at h; (repeat' split at h); all_goals first | omega | cases h) ?_; rw [Try.ntmps117]; simp only [frA]
  (repeat ((fail_if_success (show AWP _ _ (.region 2 _ _) _ _)); first | refine j0 ?_ | refine q7 rfl ?_ | refine z7 rfl ?_ | refine j6 ?_ | (refine j4 fun K hK => ?_) | (refine x5 (by kernel_rfl) (by kernel_rfl) fun K hK => ?_) | ((first | refine z6 ?_ | refine x6 ?_ | ((first | refine z2 (hK _ ?_) | refine q6 (hK _ _ (j5 (by kernel_rfl)) ?_)); clear hK K)); (first | show AWP _ _ _ _ _ | ((try simp only [q8]); first | show loopQ _ _ _ _ _ _ | show cutQ _ _ _ _ | show AWP _ _ _ _ _))) | ((first | refine x7 [] rfl ?_ | refine j7 [] rfl ?_); simp (maxSteps := 2000000) (disch := omega) only [go_sem, seval, pnP, pnM, pnP1, pnM1, r1, r2]; (repeat (first | refine ⟨by omega, ?_⟩ | refine ⟨True.intro, ?_⟩)))))
  refine awp_weak (A' := ⟨[(4, .p (.fn (.func g) [o] [])), (2, .p (.d (.v (.int .i64 (b : Int))))), (1, .p (.d (.v (.int .i64 (a : Int))))), (0, .ow 1000 gen 1 n)], [(1000, .own 3 1 n gen (rowN (swp x a p)))]⟩) ?_ ?_
  · refine Weak.list ?_ ?_; (all_goals simp (disch := omega) only [AllF, AllL, q9, x9, j8, exists_eq_left', Option.some.injEq, go_sem, seval, pnP, pnM, pnP1, pnM1]); (all_goals (repeat' (with_reducible apply And.intro))); (all_goals try (first | exact z8 rfl | (refine j9 ?_; omega) | (refine z8 ?_; simp; done)))
    exact lle_own rfl rfl (fun k _ => putN_two x a p k)
  have hs0 := PI.start (key := key) (x := x) (show a < b by omega) h1 h2
  generalize hy : swp x a p = y at hs0
  clear hy r1 r2
  have dy := hx.pe hs0.pe (by omega) hb
  have ra := rowN_at y a
  (repeat (first | refine j0 ?_ | refine q7 rfl ?_ | refine z7 rfl ?_ | refine j6 ?_ | (refine j4 fun K hK => ?_) | (refine x5 (by kernel_rfl) (by kernel_rfl) fun K hK => ?_) | ((first | refine z6 ?_ | refine x6 ?_ | ((first | refine z2 (hK _ ?_) | refine q6 (hK _ _ (j5 (by kernel_rfl)) ?_)); clear hK K)); (first | show AWP _ _ _ _ _ | ((try simp only [q8]); first | show loopQ _ _ _ _ _ _ | show cutQ _ _ _ _ | show AWP _ _ _ _ _))) | ((first | refine x7 [] rfl ?_ | refine j7 [] rfl ?_); simp (maxSteps := 2000000) (disch := omega) only [go_sem, seval, pnP, pnM, pnP1, pnM1]; (repeat (first | refine ⟨by omega, ?_⟩ | refine ⟨True.intro, ?_⟩)))))
  refine awp_blk (fun i : {i : Nat // PI key a b x y i b ∧ (i < b → ¬ key (y i) < key (y a))} => ptI key x y n gen a b b g o ⟨i.val, i.property.1⟩) ?_ ?_
  · refine awp_loop (ptI key x y n gen a b b g o) (fun s => b - s.val) ⟨a + 1, hs0⟩ ?_ (fun s => ?_)
    · unfold ptI
      refine Weak.list ?_ ?_; (all_goals simp (disch := omega) only [AllF, AllL, q9, x9, j8, exists_eq_left', Option.some.injEq, go_sem, seval, pnP, pnM, pnP1, pnM1]); (all_goals (repeat' (with_reducible apply And.intro))); (all_goals try (first | exact z8 rfl | (refine j9 ?_; omega) | (refine z8 ?_; simp; done)))
    obtain ⟨i, hi⟩ := s
    unfold ptI
    have g1 := hi.h1; have g2 := hi.h2
    by_cases h : i < b
    · have r1 := rowN_at y i
      have cc := hc.call (y i) (y a) (dy.lt _ (by omega)) (dy.lt _ (by omega))
      have cl := hc.lt (y i) (y a) (dy.lt _ (by omega)) (dy.lt _ (by omega))
      generalize c (y i) (y a) = c0 at cc cl
      by_cases hlt : c0 < 0
      · (repeat (first | refine j0 ?_ | refine q7 rfl ?_ | refine z7 rfl ?_ | refine j6 ?_ | (refine j4 fun K hK => ?_) | (refine x5 (by kernel_rfl) (by kernel_rfl) fun K hK => ?_) | ((first | refine z6 ?_ | refine x6 ?_ | ((first | refine z2 (hK _ ?_) | refine q6 (hK _ _ (j5 (by kernel_rfl)) ?_)); clear hK K)); (first | show AWP _ _ _ _ _ | ((try simp only [q8]); first | show loopQ _ _ _ _ _ _ | show cutQ _ _ _ _ | show AWP _ _ _ _ _))) | ((first | refine q10 rfl rfl rfl ?_ | refine z10 rfl rfl rfl ?_); simp (maxSteps := 2000000) (disch := omega) only [go_sem, seval, pnP, pnM, pnP1, pnM1, r1, ra]; (first | refine ⟨_, cc, ?_⟩)) | ((first | refine x7 [] rfl ?_ | refine j7 [] rfl ?_); simp (maxSteps := 2000000) (disch := omega) only [go_sem, seval, pnP, pnM, pnP1, pnM1, r1, ra]; (repeat (first | refine ⟨by omega, ?_⟩ | refine ⟨True.intro, ?_⟩)))))
        refine ⟨⟨i + 1, hi.up h (cl.1 hlt)⟩, by simp only []; omega, ?_⟩
        refine Weak.list ?_ ?_; (all_goals simp (disch := omega) only [AllF, AllL, q9, x9, j8, exists_eq_left', Option.some.injEq, go_sem, seval, pnP, pnM, pnP1, pnM1, r1, ra]); (all_goals (repeat' (with_reducible apply And.intro))); (all_goals try (first | exact z8 rfl | (refine j9 ?_; omega) | (refine z8 ?_; simp; done)))
      · (repeat (first | refine j0 ?_ | refine q7 rfl ?_ | refine z7 rfl ?_ | refine j6 ?_ | (refine j4 fun K hK => ?_) | (refine x5 (by kernel_rfl) (by kernel_rfl) fun K hK => ?_) | ((first | refine z6 ?_ | refine x6 ?_ | ((first | refine z2 (hK _ ?_) | refine q6 (hK _ _ (j5 (by kernel_rfl)) ?_)); clear hK K)); (first | show AWP _ _ _ _ _ | ((try simp only [q8]); first | show loopQ _ _ _ _ _ _ | show cutQ _ _ _ _ | show AWP _ _ _ _ _))) | ((first | refine q10 rfl rfl rfl ?_ | refine z10 rfl rfl rfl ?_); simp (maxSteps := 2000000) (disch := omega) only [go_sem, seval, pnP, pnM, pnP1, pnM1, r1, ra]; (first | refine ⟨_, cc, ?_⟩)) | ((first | refine x7 [] rfl ?_ | refine j7 [] rfl ?_); simp (maxSteps := 2000000) (disch := omega) only [go_sem, seval, pnP, pnM, pnP1, pnM1, r1, ra]; (repeat (first | refine ⟨by omega, ?_⟩ | refine ⟨True.intro, ?_⟩)))))
        (show cutQ _ _ .normal _); refine cut_n (⟨i, hi, fun _ h => hlt (cl.2 h)⟩) ?_
        refine Weak.list ?_ ?_; (all_goals simp (disch := omega) only [AllF, AllL, q9, x9, j8, exists_eq_left', Option.some.injEq, go_sem, seval, pnP, pnM, pnP1, pnM1, r1, ra]); (all_goals (repeat' (with_reducible apply And.intro))); (all_goals try (first | exact z8 rfl | (refine j9 ?_; omega) | (refine z8 ?_; simp; done)))
    · (repeat (first | refine j0 ?_ | refine q7 rfl ?_ | refine z7 rfl ?_ | refine j6 ?_ | (refine j4 fun K hK => ?_) | (refine x5 (by kernel_rfl) (by kernel_rfl) fun K hK => ?_) | ((first | refine z6 ?_ | refine x6 ?_ | ((first | refine z2 (hK _ ?_) | refine q6 (hK _ _ (j5 (by kernel_rfl)) ?_)); clear hK K)); (first | show AWP _ _ _ _ _ | ((try simp only [q8]); first | show loopQ _ _ _ _ _ _ | show cutQ _ _ _ _ | show AWP _ _ _ _ _))) | ((first | refine x7 [] rfl ?_ | refine j7 [] rfl ?_); simp (maxSteps := 2000000) (disch := omega) only [go_sem, seval, pnP, pnM, pnP1, pnM1]; (repeat (first | refine ⟨by omega, ?_⟩ | refine ⟨True.intro, ?_⟩)))))
      (show cutQ _ _ .normal _); refine cut_n (⟨i, hi, fun h' => absurd h' h⟩) ?_
      refine Weak.list ?_ ?_; (all_goals simp (disch := omega) only [AllF, AllL, q9, x9, j8, exists_eq_left', Option.some.injEq, go_sem, seval, pnP, pnM, pnP1, pnM1]); (all_goals (repeat' (with_reducible apply And.intro))); (all_goals try (first | exact z8 rfl | (refine j9 ?_; omega) | (refine z8 ?_; simp; done)))
  rintro ⟨i, hi, hiq⟩
  unfold ptI
  (repeat (first | refine j0 ?_ | refine q7 rfl ?_ | refine z7 rfl ?_ | refine j6 ?_ | (refine j4 fun K hK => ?_) | (refine x5 (by kernel_rfl) (by kernel_rfl) fun K hK => ?_) | ((first | refine z6 ?_ | refine x6 ?_ | ((first | refine z2 (hK _ ?_) | refine q6 (hK _ _ (j5 (by kernel_rfl)) ?_)); clear hK K)); (first | show AWP _ _ _ _ _ | ((try simp only [q8]); first | show loopQ _ _ _ _ _ _ | show cutQ _ _ _ _ | show AWP _ _ _ _ _))) | ((first | refine x7 [] rfl ?_ | refine j7 [] rfl ?_); simp (maxSteps := 2000000) (disch := omega) only [go_sem, seval, pnP, pnM, pnP1, pnM1]; (repeat (first | refine ⟨by omega, ?_⟩ | refine ⟨True.intro, ?_⟩)))))
  refine awp_blk (fun q : {q : Nat // PI key a b x y i q ∧ (i < q → ¬ key (y i) < key (y a)) ∧ (i < q → key (y (q - 1)) < key (y a))} => ptJ key x y n gen a b i g o ⟨q.val, q.property.1, q.property.2.1⟩) ?_ ?_
  · refine awp_loop (ptJ key x y n gen a b i g o) (fun s => s.val) ⟨b, hi, hiq⟩ ?_ (fun s => ?_)
    · unfold ptJ
      refine Weak.list ?_ ?_; (all_goals simp (disch := omega) only [AllF, AllL, q9, x9, j8, exists_eq_left', Option.some.injEq, go_sem, seval, pnP, pnM, pnP1, pnM1]); (all_goals (repeat' (with_reducible apply And.intro))); (all_goals try (first | exact z8 rfl | (refine j9 ?_; omega) | (refine z8 ?_; simp; done)))
    obtain ⟨q, hq, hq2⟩ := s
    unfold ptJ
    have g1 := hq.h1; have g2 := hq.h2; have g3 := hq.h3
    by_cases h : i < q
    · obtain ⟨q, rfl⟩ : ∃ k, q = k + 1 := ⟨q - 1, by omega⟩
      have r1 := rowN_at y q
      have cc := hc.call (y q) (y a) (dy.lt _ (by omega)) (dy.lt _ (by omega))
      have cl := hc.lt (y q) (y a) (dy.lt _ (by omega)) (dy.lt _ (by omega))
      generalize c (y q) (y a) = c0 at cc cl
      by_cases hlt : c0 < 0
      · (repeat (first | refine j0 ?_ | refine q7 rfl ?_ | refine z7 rfl ?_ | refine j6 ?_ | (refine j4 fun K hK => ?_) | (refine x5 (by kernel_rfl) (by kernel_rfl) fun K hK => ?_) | ((first | refine z6 ?_ | refine x6 ?_ | ((first | refine z2 (hK _ ?_) | refine q6 (hK _ _ (j5 (by kernel_rfl)) ?_)); clear hK K)); (first | show AWP _ _ _ _ _ | ((try simp only [q8]); first | show loopQ _ _ _ _ _ _ | show cutQ _ _ _ _ | show AWP _ _ _ _ _))) | ((first | refine q10 rfl rfl rfl ?_ | refine z10 rfl rfl rfl ?_); simp (maxSteps := 2000000) (disch := omega) only [go_sem, seval, pnP, pnM, pnP1, pnM1, r1, ra]; (first | refine ⟨_, cc, ?_⟩)) | ((first | refine x7 [] rfl ?_ | refine j7 [] rfl ?_); simp (maxSteps := 2000000) (disch := omega) only [go_sem, seval, pnP, pnM, pnP1, pnM1, r1, ra]; (repeat (first | refine ⟨by omega, ?_⟩ | refine ⟨True.intro, ?_⟩)))))
        (show cutQ _ _ .normal _); refine cut_n (⟨q + 1, hq, hq2, fun _ => cl.1 hlt⟩) ?_
        refine Weak.list ?_ ?_; (all_goals simp (disch := omega) only [AllF, AllL, q9, x9, j8, exists_eq_left', Option.some.injEq, go_sem, seval, pnP, pnM, pnP1, pnM1, r1, ra]); (all_goals (repeat' (with_reducible apply And.intro))); (all_goals try (first | exact z8 rfl | (refine j9 ?_; omega) | (refine z8 ?_; simp; done)))
      · (repeat (first | refine j0 ?_ | refine q7 rfl ?_ | refine z7 rfl ?_ | refine j6 ?_ | (refine j4 fun K hK => ?_) | (refine x5 (by kernel_rfl) (by kernel_rfl) fun K hK => ?_) | ((first | refine z6 ?_ | refine x6 ?_ | ((first | refine z2 (hK _ ?_) | refine q6 (hK _ _ (j5 (by kernel_rfl)) ?_)); clear hK K)); (first | show AWP _ _ _ _ _ | ((try simp only [q8]); first | show loopQ _ _ _ _ _ _ | show cutQ _ _ _ _ | show AWP _ _ _ _ _))) | ((first | refine q10 rfl rfl rfl ?_ | refine z10 rfl rfl rfl ?_); simp (maxSteps := 2000000) (disch := omega) only [go_sem, seval, pnP, pnM, pnP1, pnM1, r1, ra]; (first | refine ⟨_, cc, ?_⟩)) | ((first | refine x7 [] rfl ?_ | refine j7 [] rfl ?_); simp (maxSteps := 2000000) (disch := omega) only [go_sem, seval, pnP, pnM, pnP1, pnM1, r1, ra]; (repeat (first | refine ⟨by omega, ?_⟩ | refine ⟨True.intro, ?_⟩)))))
        refine ⟨⟨q, hq.down (by omega) (fun e => hlt (cl.2 e)), fun h' => hq2 h⟩, by simp only []; omega, ?_⟩
        refine Weak.list ?_ ?_; (all_goals simp (disch := omega) only [AllF, AllL, q9, x9, j8, exists_eq_left', Option.some.injEq, go_sem, seval, pnP, pnM, pnP1, pnM1, r1, ra]); (all_goals (repeat' (with_reducible apply And.intro))); (all_goals try (first | exact z8 rfl | (refine j9 ?_; omega) | (refine z8 ?_; simp; done)))
    · (repeat (first | refine j0 ?_ | refine q7 rfl ?_ | refine z7 rfl ?_ | refine j6 ?_ | (refine j4 fun K hK => ?_) | (refine x5 (by kernel_rfl) (by kernel_rfl) fun K hK => ?_) | ((first | refine z6 ?_ | refine x6 ?_ | ((first | refine z2 (hK _ ?_) | refine q6 (hK _ _ (j5 (by kernel_rfl)) ?_)); clear hK K)); (first | show AWP _ _ _ _ _ | ((try simp only [q8]); first | show loopQ _ _ _ _ _ _ | show cutQ _ _ _ _ | show AWP _ _ _ _ _))) | ((first | refine x7 [] rfl ?_ | refine j7 [] rfl ?_); simp (maxSteps := 2000000) (disch := omega) only [go_sem, seval, pnP, pnM, pnP1, pnM1]; (repeat (first | refine ⟨by omega, ?_⟩ | refine ⟨True.intro, ?_⟩)))))
      (show cutQ _ _ .normal _); refine cut_n (⟨q, hq, hq2, fun h' => absurd h' h⟩) ?_
      refine Weak.list ?_ ?_; (all_goals simp (disch := omega) only [AllF, AllL, q9, x9, j8, exists_eq_left', Option.some.injEq, go_sem, seval, pnP, pnM, pnP1, pnM1]); (all_goals (repeat' (with_reducible apply And.intro))); (all_goals try (first | exact z8 rfl | (refine j9 ?_; omega) | (refine z8 ?_; simp; done)))
  rintro ⟨q, hq, hq2, hq3⟩
  unfold ptJ
  have g1 := hq.h1; have g2 := hq.h2; have g3 := hq.h3
  by_cases h : i = q
  · subst h
    obtain ⟨i, rfl⟩ : ∃ k, i = k + 1 := ⟨i - 1, by omega⟩
    have r1 := rowN_at y i
    obtain ⟨d1, d2, d3, d4⟩ := hq.done
    (repeat ((fail_if_success (show AWP _ _ (.region 9 _ _) _ _)); first | refine j0 ?_ | refine q7 rfl ?_ | refine z7 rfl ?_ | refine j6 ?_ | (refine j4 fun K hK => ?_) | (refine x5 (by kernel_rfl) (by kernel_rfl) fun K hK => ?_) | ((first | refine z6 ?_ | refine x6 ?_ | ((first | refine z2 (hK _ ?_) | refine q6 (hK _ _ (j5 (by kernel_rfl)) ?_)); clear hK K)); (first | show AWP _ _ _ _ _ | ((try simp only [q8]); first | show loopQ _ _ _ _ _ _ | show cutQ _ _ _ _ | show AWP _ _ _ _ _))) | ((first | refine x7 [] rfl ?_ | refine j7 [] rfl ?_); simp (maxSteps := 2000000) (disch := omega) only [go_sem, seval, pnP, pnM, pnP1, pnM1, r1, ra]; (repeat (first | refine ⟨by omega, ?_⟩ | refine ⟨True.intro, ?_⟩)))))
    refine awp_weak (A' := ⟨[(13, .p (.d (.v (.int .i64 (i : Int)))))], [(1000, .own 3 1 n gen (rowN (swp y i a)))]⟩) ?_ ?_
    · refine Weak.list ?_ ?_; (all_goals simp (disch := omega) only [AllF, AllL, q9, x9, j8, exists_eq_left', Option.some.injEq, go_sem, seval, pnP, pnM, pnP1, pnM1, r1, ra]); (all_goals (repeat' (with_reducible apply And.intro))); (all_goals try (first | exact z8 rfl | (refine j9 ?_; omega) | (refine z8 ?_; simp; done)))
      exact lle_own rfl rfl (fun k _ => putN_two y i a k)
    (repeat (first | refine j0 ?_ | refine q7 rfl ?_ | refine z7 rfl ?_ | refine j6 ?_ | (refine j4 fun K hK => ?_) | (refine x5 (by kernel_rfl) (by kernel_rfl) fun K hK => ?_) | ((first | refine z6 ?_ | refine x6 ?_ | ((first | refine z2 (hK _ ?_) | refine q6 (hK _ _ (j5 (by kernel_rfl)) ?_)); clear hK K)); (first | show AWP _ _ _ _ _ | ((try simp only [q8]); first | show loopQ _ _ _ _ _ _ | show cutQ _ _ _ _ | show AWP _ _ _ _ _))) | ((first | refine x7 [] rfl ?_ | refine j7 [] rfl ?_); simp (maxSteps := 2000000) (disch := omega) only [go_sem, seval, pnP, pnM, pnP1, pnM1]; (repeat (first | refine ⟨by omega, ?_⟩ | refine ⟨True.intro, ?_⟩)))))
    exact x8 (retM_of [_, _] [(1000, _)] ⟨rfl, rfl, trivial⟩ (by simp [AL.look] <;> first | rfl | exact ⟨rfl, rfl⟩) ⟨⟨(i, true, swp y i a), d1, d2, d3, d4⟩, rfl, rfl⟩)
  · obtain ⟨q, rfl⟩ : ∃ k, q = k + 1 := ⟨q - 1, by omega⟩
    rw [Nat.add_sub_cancel] at hq3
    obtain ⟨s1, s2⟩ := hq.swap (by omega) (hq2 (by omega)) (hq3 (by omega))
    have r1 := rowN_at y i
    have r2 := rowN_at y q
    (repeat ((fail_if_success (show AWP _ _ (.region 11 _ _) _ _)); first | refine j0 ?_ | refine q7 rfl ?_ | refine z7 rfl ?_ | refine j6 ?_ | (refine j4 fun K hK => ?_) | (refine x5 (by kernel_rfl) (by kernel_rfl) fun K hK => ?_) | ((first | refine z6 ?_ | refine x6 ?_ | ((first | refine z2 (hK _ ?_) | refine q6 (hK _ _ (j5 (by kernel_rfl)) ?_)); clear hK K)); (first | show AWP _ _ _ _ _ | ((try simp only [q8]); first | show loopQ _ _ _ _ _ _ | show cutQ _ _ _ _ | show AWP _ _ _ _ _))) | ((first | refine x7 [] rfl ?_ | refine j7 [] rfl ?_); simp (maxSteps := 2000000) (disch := omega) only [go_sem, seval, pnP, pnM, pnP1, pnM1, r1, r2]; (repeat (first | refine ⟨by omega, ?_⟩ | refine ⟨True.intro, ?_⟩)))))
    refine awp_weak (A' := ⟨[(13, .p (.d (.v (.int .i64 (q : Int))))), (12, .p (.d (.v (.int .i64 (i : Int))))), (4, .p (.fn (.func g) [o] [])), (1, .p (.d (.v (.int .i64 (a : Int))))), (0, .ow 1000 gen 1 n)], [(1000, .own 3 1 n gen (rowN (swp y i q)))]⟩) ?_ ?_
    · refine Weak.list ?_ ?_; (all_goals simp (disch := omega) only [AllF, AllL, q9, x9, j8, exists_eq_left', Option.some.injEq, go_sem, seval, pnP, pnM, pnP1, pnM1, r1, r2]); (all_goals (repeat' (with_reducible apply And.intro))); (all_goals try (first | exact z8 rfl | (refine j9 ?_; omega) | (refine z8 ?_; simp; done)))
      exact lle_own rfl rfl (fun k _ => putN_two y i q k)
    (repeat (first | refine j0 ?_ | refine q7 rfl ?_ | refine z7 rfl ?_ | refine j6 ?_ | (refine j4 fun K hK => ?_) | (refine x5 (by kernel_rfl) (by kernel_rfl) fun K hK => ?_) | ((first | refine z6 ?_ | refine x6 ?_ | ((first | refine z2 (hK _ ?_) | refine q6 (hK _ _ (j5 (by kernel_rfl)) ?_)); clear hK K)); (first | show AWP _ _ _ _ _ | ((try simp only [q8]); first | show loopQ _ _ _ _ _ _ | show cutQ _ _ _ _ | show AWP _ _ _ _ _))) | ((first | refine x7 [] rfl ?_ | refine j7 [] rfl ?_); simp (maxSteps := 2000000) (disch := omega) only [go_sem, seval, pnP, pnM, pnP1, pnM1]; (repeat (first | refine ⟨by omega, ?_⟩ | refine ⟨True.intro, ?_⟩)))))
    refine awp_blk (fun s : {s : Nat × (Nat → Nat) // PI key a b x s.2 s.1 s.1} => ptK key x n gen a b g o ⟨(s.val.1, s.val.1, s.val.2), s.property⟩) ?_ ?_
    · refine awp_loop (ptK key x n gen a b g o) (fun s => s.val.2.1 - s.val.1) ⟨(i + 1, q, swp y i q), s2⟩ ?_ (fun s => ?_)
      · unfold ptK
        refine Weak.list ?_ ?_; (all_goals simp (disch := omega) only [AllF, AllL, q9, x9, j8, exists_eq_left', Option.some.injEq, go_sem, seval, pnP, pnM, pnP1, pnM1]); (all_goals (repeat' (with_reducible apply And.intro))); (all_goals try (first | exact z8 rfl | (refine j9 ?_; omega) | (refine z8 ?_; simp; done)))
      clear s2 s1 r1 r2 hq hq2 hq3 g1 g2 g3 h hi hiq dy ra hs0
      obtain ⟨⟨i0, q0, y⟩, hs⟩ := s
      unfold ptK
      simp only [] at hs
      have dy := hx.pe hs.pe (by omega) hb
      have ra := rowN_at y a
      have e1 := hs.h1; have e2 := hs.h2; have e3 := hs.h3
      (repeat (first | refine j0 ?_ | refine q7 rfl ?_ | refine z7 rfl ?_ | refine j6 ?_ | (refine j4 fun K hK => ?_) | (refine x5 (by kernel_rfl) (by kernel_rfl) fun K hK => ?_) | ((first | refine z6 ?_ | refine x6 ?_ | ((first | refine z2 (hK _ ?_) | refine q6 (hK _ _ (j5 (by kernel_rfl)) ?_)); clear hK K)); (first | show AWP _ _ _ _ _ | ((try simp only [q8]); first | show loopQ _ _ _ _ _ _ | show cutQ _ _ _ _ | show AWP _ _ _ _ _))) | ((first | refine x7 [] rfl ?_ | refine j7 [] rfl ?_); simp (maxSteps := 2000000) (disch := omega) only [go_sem, seval, pnP, pnM, pnP1, pnM1]; (repeat (first | refine ⟨by omega, ?_⟩ | refine ⟨True.intro, ?_⟩)))))
      refine awp_blk (fun i : {i : Nat // i0 ≤ i ∧ PI key a b x y i q0 ∧ (i < q0 → ¬ key (y i) < key (y a))} => ptI key x y n gen a b q0 g o ⟨i.val, i.property.2.1⟩) ?_ ?_
      · refine awp_loop (fun i : {i : Nat // i0 ≤ i ∧ PI key a b x y i q0} => ptI key x y n gen a b q0 g o ⟨i.val, i.property.2⟩) (fun s => q0 - s.val) ⟨i0, Nat.le_refl _, hs⟩ ?_ (fun s => ?_)
        · unfold ptI
          refine Weak.list ?_ ?_; (all_goals simp (disch := omega) only [AllF, AllL, q9, x9, j8, exists_eq_left', Option.some.injEq, go_sem, seval, pnP, pnM, pnP1, pnM1]); (all_goals (repeat' (with_reducible apply And.intro))); (all_goals try (first | exact z8 rfl | (refine j9 ?_; omega) | (refine z8 ?_; simp; done)))
        obtain ⟨i, hi0, hi⟩ := s
        unfold ptI
        have g1 := hi.h1; have g2 := hi.h2
        by_cases h : i < q0
        · have r1 := rowN_at y i
          have cc := hc.call (y i) (y a) (dy.lt _ (by omega)) (dy.lt _ (by omega))
          have cl := hc.lt (y i) (y a) (dy.lt _ (by omega)) (dy.lt _ (by omega))
          generalize c (y i) (y a) = c0 at cc cl
          by_cases hlt : c0 < 0
          · (repeat (first | refine j0 ?_ | refine q7 rfl ?_ | refine z7 rfl ?_ | refine j6 ?_ | (refine j4 fun K hK => ?_) | (refine x5 (by kernel_rfl) (by kernel_rfl) fun K hK => ?_) | ((first | refine z6 ?_ | refine x6 ?_ | ((first | refine z2 (hK _ ?_) | refine q6 (hK _ _ (j5 (by kernel_rfl)) ?_)); clear hK K)); (first | show AWP _ _ _ _ _ | ((try simp only [q8]); first | show loopQ _ _ _ _ _ _ | show cutQ _ _ _ _ | show AWP _ _ _ _ _))) | ((first | refine q10 rfl rfl rfl ?_ | refine z10 rfl rfl rfl ?_); simp (maxSteps := 2000000) (disch := omega) only [go_sem, seval, pnP, pnM, pnP1, pnM1, r1, ra]; (first | refine ⟨_, cc, ?_⟩)) | ((first | refine x7 [] rfl ?_ | refine j7 [] rfl ?_); simp (maxSteps := 2000000) (disch := omega) only [go_sem, seval, pnP, pnM, pnP1, pnM1, r1, ra]; (repeat (first | refine ⟨by omega, ?_⟩ | refine ⟨True.intro, ?_⟩)))))
            refine ⟨⟨i + 1, by omega, hi.up h (cl.1 hlt)⟩, by simp only []; omega, ?_⟩
            refine Weak.list ?_ ?_; (all_goals simp (disch := omega) only [AllF, AllL, q9, x9, j8, exists_eq_left', Option.some.injEq, go_sem, seval, pnP, pnM, pnP1, pnM1, r1, ra]); (all_goals (repeat' (with_reducible apply And.intro))); (all_goals try (first | exact z8 rfl | (refine j9 ?_; omega) | (refine z8 ?_; simp; done)))
          · (repeat (first | refine j0 ?_ | refine q7 rfl ?_ | refine z7 rfl ?_ | refine j6 ?_ | (refine j4 fun K hK => ?_) | (refine x5 (by kernel_rfl) (by kernel_rfl) fun K hK => ?_) | ((first | refine z6 ?_ | refine x6 ?_ | ((first | refine z2 (hK _ ?_) | refine q6 (hK _ _ (j5 (by kernel_rfl)) ?_)); clear hK K)); (first | show AWP _ _ _ _ _ | ((try simp only [q8]); first | show loopQ _ _ _ _ _ _ | show cutQ _ _ _ _ | show AWP _ _ _ _ _))) | ((first | refine q10 rfl rfl rfl ?_ | refine z10 rfl rfl rfl ?_); simp (maxSteps := 2000000) (disch := omega) only [go_sem, seval, pnP, pnM, pnP1, pnM1, r1, ra]; (first | refine ⟨_, cc, ?_⟩)) | ((first | refine x7 [] rfl ?_ | refine j7 [] rfl ?_); simp (maxSteps := 2000000) (disch := omega) only [go_sem, seval, pnP, pnM, pnP1, pnM1, r1, ra]; (repeat (first | refine ⟨by omega, ?_⟩ | refine ⟨True.intro, ?_⟩)))))
            (show cutQ _ _ .normal _); refine cut_n (⟨i, hi0, hi, fun _ h => hlt (cl.2 h)⟩) ?_
            refine Weak.list ?_ ?_; (all_goals simp (disch := omega) only [AllF, AllL, q9, x9, j8, exists_eq_left', Option.some.injEq, go_sem, seval, pnP, pnM, pnP1, pnM1, r1, ra]); (all_goals (repeat' (with_reducible apply And.intro))); (all_goals try (first | exact z8 rfl | (refine j9 ?_; omega) | (refine z8 ?_; simp; done)))
        · (repeat (first | refine j0 ?_ | refine q7 rfl ?_ | refine z7 rfl ?_ | refine j6 ?_ | (refine j4 fun K hK => ?_) | (refine x5 (by kernel_rfl) (by kernel_rfl) fun K hK => ?_) | ((first | refine z6 ?_ | refine x6 ?_ | ((first | refine z2 (hK _ ?_) | refine q6 (hK _ _ (j5 (by kernel_rfl)) ?_)); clear hK K)); (first | show AWP _ _ _ _ _ | ((try simp only [q8]); first | show loopQ _ _ _ _ _ _ | show cutQ _ _ _ _ | show AWP _ _ _ _ _))) | ((first | refine x7 [] rfl ?_ | refine j7 [] rfl ?_); simp (maxSteps := 2000000) (disch := omega) only [go_sem, seval, pnP, pnM, pnP1, pnM1]; (repeat (first | refine ⟨by omega, ?_⟩ | refine ⟨True.intro, ?_⟩)))))
          (show cutQ _ _ .normal _); refine cut_n (⟨i, hi0, hi, fun h' => absurd h' h⟩) ?_
          refine Weak.list ?_ ?_; (all_goals simp (disch := omega) only [AllF, AllL, q9, x9, j8, exists_eq_left', Option.some.injEq, go_sem, seval, pnP, pnM, pnP1, pnM1]); (all_goals (repeat' (with_reducible apply And.intro))); (all_goals try (first | exact z8 rfl | (refine j9 ?_; omega) | (refine z8 ?_; simp; done)))
      rintro ⟨i, hi0, hi, hiq⟩
      unfold ptI
      have g2 := hi.h2
      (repeat (first | refine j0 ?_ | refine q7 rfl ?_ | refine z7 rfl ?_ | refine j6 ?_ | (refine j4 fun K hK => ?_) | (refine x5 (by kernel_rfl) (by kernel_rfl) fun K hK => ?_) | ((first | refine z6 ?_ | refine x6 ?_ | ((first | refine z2 (hK _ ?_) | refine q6 (hK _ _ (j5 (by kernel_rfl)) ?_)); clear hK K)); (first | show AWP _ _ _ _ _ | ((try simp only [q8]); first | show loopQ _ _ _ _ _ _ | show cutQ _ _ _ _ | show AWP _ _ _ _ _))) | ((first | refine x7 [] rfl ?_ | refine j7 [] rfl ?_); simp (maxSteps := 2000000) (disch := omega) only [go_sem, seval, pnP, pnM, pnP1, pnM1]; (repeat (first | refine ⟨by omega, ?_⟩ | refine ⟨True.intro, ?_⟩)))))
      refine awp_blk (fun q : {q : Nat // q ≤ q0 ∧ PI key a b x y i q ∧ (i < q → ¬ key (y i) < key (y a)) ∧ (i < q → key (y (q - 1)) < key (y a))} => ptJ key x y n gen a b i g o ⟨q.val, q.property.2.1, q.property.2.2.1⟩) ?_ ?_
      · refine awp_loop (fun q : {q : Nat // q ≤ q0 ∧ PI key a b x y i q ∧ (i < q → ¬ key (y i) < key (y a))} => ptJ key x y n gen a b i g o ⟨q.val, q.property.2.1, q.property.2.2⟩) (fun s => s.val) ⟨q0, Nat.le_refl _, hi, hiq⟩ ?_ (fun s => ?_)
        · unfold ptJ
          refine Weak.list ?_ ?_; (all_goals simp (disch := omega) only [AllF, AllL, q9, x9, j8, exists_eq_left', Option.some.injEq, go_sem, seval, pnP, pnM, pnP1, pnM1]); (all_goals (repeat' (with_reducible apply And.intro))); (all_goals try (first | exact z8 rfl | (refine j9 ?_; omega) | (refine z8 ?_; simp; done)))
        obtain ⟨q, hq0, hq, hq2⟩ := s
        unfold ptJ
        have g1 := hq.h1; have g2 := hq.h2; have g3 := hq.h3
        by_cases h : i < q
        · obtain ⟨q, rfl⟩ : ∃ k, q = k + 1 := ⟨q - 1, by omega⟩
          have r1 := rowN_at y q
          have cc := hc.call (y q) (y a) (dy.lt _ (by omega)) (dy.lt _ (by omega))
          have cl := hc.lt (y q) (y a) (dy.lt _ (by omega)) (dy.lt _ (by omega))
          generalize c (y q) (y a) = c0 at cc cl
          by_cases hlt : c0 < 0
          · (repeat (first | refine j0 ?_ | refine q7 rfl ?_ | refine z7 rfl ?_ | refine j6 ?_ | (refine j4 fun K hK => ?_) | (refine x5 (by kernel_rfl) (by kernel_rfl) fun K hK => ?_) | ((first | refine z6 ?_ | refine x6 ?_ | ((first | refine z2 (hK _ ?_) | refine q6 (hK _ _ (j5 (by kernel_rfl)) ?_)); clear hK K)); (first | show AWP _ _ _ _ _ | ((try simp only [q8]); first | show loopQ _ _ _ _ _ _ | show cutQ _ _ _ _ | show AWP _ _ _ _ _))) | ((first | refine q10 rfl rfl rfl ?_ | refine z10 rfl rfl rfl ?_); simp (maxSteps := 2000000) (disch := omega) only [go_sem, seval, pnP, pnM, pnP1, pnM1, r1, ra]; (first | refine ⟨_, cc, ?_⟩)) | ((first | refine x7 [] rfl ?_ | refine j7 [] rfl ?_); simp (maxSteps := 2000000) (disch := omega) only [go_sem, seval, pnP, pnM, pnP1, pnM1, r1, ra]; (repeat (first | refine ⟨by omega, ?_⟩ | refine ⟨True.intro, ?_⟩)))))
            (show cutQ _ _ .normal _); refine cut_n (⟨q + 1, hq0, hq, hq2, fun _ => cl.1 hlt⟩) ?_
            refine Weak.list ?_ ?_; (all_goals simp (disch := omega) only [AllF, AllL, q9, x9, j8, exists_eq_left', Option.some.injEq, go_sem, seval, pnP, pnM, pnP1, pnM1, r1, ra]); (all_goals (repeat' (with_reducible apply And.intro))); (all_goals try (first | exact z8 rfl | (refine j9 ?_; omega) | (refine z8 ?_; simp; done)))
          · (repeat (first | refine j0 ?_ | refine q7 rfl ?_ | refine z7 rfl ?_ | refine j6 ?_ | (refine j4 fun K hK => ?_) | (refine x5 (by kernel_rfl) (by kernel_rfl) fun K hK => ?_) | ((first | refine z6 ?_ | refine x6 ?_ | ((first | refine z2 (hK _ ?_) | refine q6 (hK _ _ (j5 (by kernel_rfl)) ?_)); clear hK K)); (first | show AWP _ _ _ _ _ | ((try simp only [q8]); first | show loopQ _ _ _ _ _ _ | show cutQ _ _ _ _ | show AWP _ _ _ _ _))) | ((first | refine q10 rfl rfl rfl ?_ | refine z10 rfl rfl rfl ?_); simp (maxSteps := 2000000) (disch := omega) only [go_sem, seval, pnP, pnM, pnP1, pnM1, r1, ra]; (first | refine ⟨_, cc, ?_⟩)) | ((first | refine x7 [] rfl ?_ | refine j7 [] rfl ?_); simp (maxSteps := 2000000) (disch := omega) only [go_sem, seval, pnP, pnM, pnP1, pnM1, r1, ra]; (repeat (first | refine ⟨by omega, ?_⟩ | refine ⟨True.intro, ?_⟩)))))
            refine ⟨⟨q, by omega, hq.down (by omega) (fun e => hlt (cl.2 e)), fun h' => hq2 h⟩, by simp only []; omega, ?_⟩
            refine Weak.list ?_ ?_; (all_goals simp (disch := omega) only [AllF, AllL, q9, x9, j8, exists_eq_left', Option.some.injEq, go_sem, seval, pnP, pnM, pnP1, pnM1, r1, ra]); (all_goals (repeat' (with_reducible apply And.intro))); (all_goals try (first | exact z8 rfl | (refine j9 ?_; omega) | (refine z8 ?_; simp; done)))
        · (repeat (first | refine j0 ?_ | refine q7 rfl ?_ | refine z7 rfl ?_ | refine j6 ?_ | (refine j4 fun K hK => ?_) | (refine x5 (by kernel_rfl) (by kernel_rfl) fun K hK => ?_) | ((first | refine z6 ?_ | refine x6 ?_ | ((first | refine z2 (hK _ ?_) | refine q6 (hK _ _ (j5 (by kernel_rfl)) ?_)); clear hK K)); (first | show AWP _ _ _ _ _ | ((try simp only [q8]); first | show loopQ _ _ _ _ _ _ | show cutQ _ _ _ _ | show AWP _ _ _ _ _))) | ((first | refine x7 [] rfl ?_ | refine j7 [] rfl ?_); simp (maxSteps := 2000000) (disch := omega) only [go_sem, seval, pnP, pnM, pnP1, pnM1]; (repeat (first | refine ⟨by omega, ?_⟩ | refine ⟨True.intro, ?_⟩)))))
          (show cutQ _ _ .normal _); refine cut_n (⟨q, hq0, hq, hq2, fun h' => absurd h' h⟩) ?_
          refine Weak.list ?_ ?_; (all_goals simp (disch := omega) only [AllF, AllL, q9, x9, j8, exists_eq_left', Option.some.injEq, go_sem, seval, pnP, pnM, pnP1, pnM1]); (all_goals (repeat' (with_reducible apply And.intro))); (all_goals try (first | exact z8 rfl | (refine j9 ?_; omega) | (refine z8 ?_; simp; done)))
      rintro ⟨q, hq0, hq, hq2, hq3⟩
      unfold ptJ
      have g1 := hq.h1; have g2 := hq.h2; have g3 := hq.h3
      by_cases h : i = q
      · subst h
        (repeat (first | refine j0 ?_ | refine q7 rfl ?_ | refine z7 rfl ?_ | refine j6 ?_ | (refine j4 fun K hK => ?_) | (refine x5 (by kernel_rfl) (by kernel_rfl) fun K hK => ?_) | ((first | refine z6 ?_ | refine x6 ?_ | ((first | refine z2 (hK _ ?_) | refine q6 (hK _ _ (j5 (by kernel_rfl)) ?_)); clear hK K)); (first | show AWP _ _ _ _ _ | ((try simp only [q8]); first | show loopQ _ _ _ _ _ _ | show cutQ _ _ _ _ | show AWP _ _ _ _ _))) | ((first | refine x7 [] rfl ?_ | refine j7 [] rfl ?_); simp (maxSteps := 2000000) (disch := omega) only [go_sem, seval, pnP, pnM, pnP1, pnM1]; (repeat (first | refine ⟨by omega, ?_⟩ | refine ⟨True.intro, ?_⟩)))))
        (show cutQ _ _ .normal _); refine cut_n (⟨(i, y), hq⟩) ?_
        refine Weak.list ?_ ?_; (all_goals simp (disch := omega) only [AllF, AllL, q9, x9, j8, exists_eq_left', Option.some.injEq, go_sem, seval, pnP, pnM, pnP1, pnM1]); (all_goals (repeat' (with_reducible apply And.intro))); (all_goals try (first | exact z8 rfl | (refine j9 ?_; omega) | (refine z8 ?_; simp; done)))
      · obtain ⟨q, rfl⟩ : ∃ k, q = k + 1 := ⟨q - 1, by omega⟩
        rw [Nat.add_sub_cancel] at hq3
        obtain ⟨s1, s2⟩ := hq.swap (by omega) (hq2 (by omega)) (hq3 (by omega))
        have r1 := rowN_at y i
        have r2 := rowN_at y q
        (repeat (first | refine j0 ?_ | refine q7 rfl ?_ | refine z7 rfl ?_ | refine j6 ?_ | (refine j4 fun K hK => ?_) | (refine x5 (by kernel_rfl) (by kernel_rfl) fun K hK => ?_) | ((first | refine z6 ?_ | refine x6 ?_ | ((first | refine z2 (hK _ ?_) | refine q6 (hK _ _ (j5 (by kernel_rfl)) ?_)); clear hK K)); (first | show AWP _ _ _ _ _ | ((try simp only [q8]); first | show loopQ _ _ _ _ _ _ | show cutQ _ _ _ _ | show AWP _ _ _ _ _))) | ((first | refine x7 [] rfl ?_ | refine j7 [] rfl ?_); simp (maxSteps := 2000000) (disch := omega) only [go_sem, seval, pnP, pnM, pnP1, pnM1, r1, r2]; (repeat (first | refine ⟨by omega, ?_⟩ | refine ⟨True.intro, ?_⟩)))))
        refine ⟨⟨(i + 1, q, swp y i q), s2⟩, by simp only []; omega, ?_⟩
        refine Weak.list ?_ ?_; (all_goals simp (disch := omega) only [AllF, AllL, q9, x9, j8, exists_eq_left', Option.some.injEq, go_sem, seval, pnP, pnM, pnP1, pnM1, r1, r2]); (all_goals (repeat' (with_reducible apply And.intro))); (all_goals try (first | exact z8 rfl | (refine j9 ?_; omega) | (refine z8 ?_; simp; done)))
        exact lle_own rfl rfl (fun k _ => putN_two y i q k)
    rintro ⟨⟨q, z⟩, hz⟩
    unfold ptK
    simp only [] at hz
    have e1 := hz.h1; have e3 := hz.h3
    obtain ⟨q, rfl⟩ : ∃ k, q = k + 1 := ⟨q - 1, by omega⟩
    have r1 := rowN_at z q
    have r2 := rowN_at z a
    obtain ⟨d1, d2, d3, d4⟩ := hz.done
    (repeat ((fail_if_success (show AWP _ _ (.region 22 _ _) _ _)); first | refine j0 ?_ | refine q7 rfl ?_ | refine z7 rfl ?_ | refine j6 ?_ | (refine j4 fun K hK => ?_) | (refine x5 (by kernel_rfl) (by kernel_rfl) fun K hK => ?_) | ((first | refine z6 ?_ | refine x6 ?_ | ((first | refine z2 (hK _ ?_) | refine q6 (hK _ _ (j5 (by kernel_rfl)) ?_)); clear hK K)); (first | show AWP _ _ _ _ _ | ((try simp only [q8]); first | show loopQ _ _ _ _ _ _ | show cutQ _ _ _ _ | show AWP _ _ _ _ _))) | ((first | refine x7 [] rfl ?_ | refine j7 [] rfl ?_); simp (maxSteps := 2000000) (disch := omega) only [go_sem, seval, pnP, pnM, pnP1, pnM1, r1, r2]; (repeat (first | refine ⟨by omega, ?_⟩ | refine ⟨True.intro, ?_⟩)))))
    refine awp_weak (A' := ⟨[(13, .p (.d (.v (.int .i64 (q : Int)))))], [(1000, .own 3 1 n gen (rowN (swp z q a)))]⟩) ?_ ?_
    · refine Weak.list ?_ ?_; (all_goals simp (disch := omega) only [AllF, AllL, q9, x9, j8, exists_eq_left', Option.some.injEq, go_sem, seval, pnP, pnM, pnP1, pnM1, r1, r2]); (all_goals (repeat' (with_reducible apply And.intro))); (all_goals try (first | exact z8 rfl | (refine j9 ?_; omega) | (refine z8 ?_; simp; done)))
      exact lle_own rfl rfl (fun k _ => putN_two z q a k)
    (repeat (first | refine j0 ?_ | refine q7 rfl ?_ | refine z7 rfl ?_ | refine j6 ?_ | (refine j4 fun K hK => ?_) | (refine x5 (by kernel_rfl) (by kernel_rfl) fun K hK => ?_) | ((first | refine z6 ?_ | refine x6 ?_ | ((first | refine z2 (hK _ ?_) | refine q6 (hK _ _ (j5 (by kernel_rfl)) ?_)); clear hK K)); (first | show AWP _ _ _ _ _ | ((try simp only [q8]); first | show loopQ _ _ _ _ _ _ | show cutQ _ _ _ _ | show AWP _ _ _ _ _))) | ((first | refine x7 [] rfl ?_ | refine j7 [] rfl ?_); simp (maxSteps := 2000000) (disch := omega) only [go_sem, seval, pnP, pnM, pnP1, pnM1]; (repeat (first | refine ⟨by omega, ?_⟩ | refine ⟨True.intro, ?_⟩)))))
    exact x8 (retM_of [_, _] [(1000, _)] ⟨rfl, rfl, trivial⟩ (by simp [AL.look] <;> first | rfl | exact ⟨rfl, rfl⟩) ⟨⟨(q, false, swp z q a), d1, d2, d3, d4⟩, rfl, rfl⟩)
end Go.Proofs.Ytbiildleaelodaa
set_option linter.unusedSimpArgs false
set_option linter.unusedVariables false
namespace Go.Proofs.Ytbiildleaelodaa
open Go.Proofs.Ytbiildleaelodaa.AL
def paS (n gen a b : Nat) (g : FuncId) (o : PV) (i j : Nat) (y : Nat → Nat) : ASt :=
  ⟨[(10, .p (.d (.v (.int .i64 (j : Int))))), (9, .p (.d (.v (.int .i64 (i : Int))))), (3, .p (.fn (.func g) [o] [])), (2, .p (.d (.v (.int .i64 (b : Int))))), (1, .p (.d (.v (.int .i64 (a : Int))))), (0, .ow 1000 gen 1 n)],
   [(1000, .own 3 1 n gen (rowN y))]⟩
def paL (n gen a b : Nat) (g : FuncId) (o : PV) (i j : Nat) (k : Nat) (y : Nat → Nat) : ASt :=
  ⟨[(11, .p (.d (.v (.int .i64 (k : Int))))), (10, .p (.d (.v (.int .i64 (j : Int))))), (9, .p (.d (.v (.int .i64 (i : Int))))), (3, .p (.fn (.func g) [o] [])), (2, .p (.d (.v (.int .i64 (b : Int))))), (1, .p (.d (.v (.int .i64 (a : Int))))), (0, .ow 1000 gen 1 n)],
   [(1000, .own 3 1 n gen (rowN y))]⟩
def paR (n gen a b : Nat) (g : FuncId) (o : PV) (i j : Nat) (k : Nat) (y : Nat → Nat) : ASt :=
  ⟨[(12, .p (.d (.v (.int .i64 (k : Int))))), (10, .p (.d (.v (.int .i64 (j : Int))))), (9, .p (.d (.v (.int .i64 (i : Int))))), (3, .p (.fn (.func g) [o] [])), (2, .p (.d (.v (.int .i64 (b : Int))))), (1, .p (.d (.v (.int .i64 (a : Int))))), (0, .ow 1000 gen 1 n)],
   [(1000, .own 3 1 n gen (rowN y))]⟩
structure PA (key : Nat → Int) (a b : Nat) (x : Nat → Nat) (i : Nat) (y : Nat → Nat) : Prop where
  h1 : a + 1 ≤ i
  h2 : i ≤ b
  pe : PE a b x y
  st : Srt key a i y
theorem PA.up {key : Nat → Int} {a b i : Nat} {x y : Nat → Nat} (h : PA key a b x i y) (hl : i < b) (hk : ¬ key (y i) < key (y (i - 1))) : PA key a b x (i + 1) y := by
  refine ⟨by have := h.h1; omega, hl, h.pe, fun p q h1 h2 h3 => ?_⟩
  have := h.h1
  by_cases e : q = i
  · subst e
    by_cases e2 : p = q - 1
    · subst e2; omega
    · have := h.st p (q - 1) h1 (by omega) (by omega); omega
  · exact h.st p q h1 h2 (by omega)
theorem PA.swap {key : Nat → Int} {a b i : Nat} {x y : Nat → Nat} (h : PA key a b x i y) (hl : i < b) : PE a b x (swp y i (i - 1)) ∧ Srt key a (i - 1) (swp y i (i - 1)) := by
  have := h.h1
  refine ⟨h.pe.trans (PE.swp (by omega) (by omega) (by omega) (by omega)), fun p q h1 h2 h3 => ?_⟩
  rw [swp_o _ (by omega) (by omega), swp_o _ (by omega) (by omega)]
  exact h.st p q h1 h2 (by omega)
set_option maxRecDepth 100000 in
set_option maxHeartbeats 4000000 in
theorem partial_c {key : Nat → Int} {c : Nat → Nat → Int} {g : FuncId} {o : PV} {N : Nat} (hc : CmpN Try.prog g o N key c) (x : Nat → Nat) (n gen a b : Nat) (hab : a + 12 < b) (hb : b ≤ n) (hn : n ≤ 1099511627776) (hx : Dom n N x) (hbl : Blw key a b x) :
    MCalls Try.prog 115 [.ow 1000 gen 1 n, .p (.d (.v (.int .i64 (a : Int)))), .p (.d (.v (.int .i64 (b : Int)))), .p (.fn (.func g) [o] [])] [(1000, .own 3 1 n gen (rowN x))]
      (fun rs M => ∃ r : {r : Bool × (Nat → Nat) // PE a b x r.2 ∧ (r.1 = true → Srt key a b r.2)}, rs = [.p (.d (.v (.bool r.val.1)))] ∧ M = [(1000, .own 3 1 n gen (rowN r.val.2))]) := by
  have lt1 : ∀ (y : Nat → Nat) (p q : Nat), PE a b x y → p < n → q < n → ACalls Try.prog g [o, .d (.v (.int .i64 (y p : Int))), .d (.v (.int .i64 (y q : Int)))] (· = [.d (.v (.int .i64 (c (y p) (y q))))]) ∧ (c (y p) (y q) < 0 ↔ key (y p) < key (y q)) := fun y p q hp h1 h2 =>
    have dy := hx.pe hp (by omega) hb
    ⟨hc.call _ _ (dy.lt _ h1) (dy.lt _ h2), hc.lt _ _ (dy.lt _ h1) (dy.lt _ h2)⟩
  refine mcalls_of_awp Try.func115 rfl (by decide +kernel) (by rw [Try.ntmps115]; simp) (fun l X h => by simp only [AL.look] at h; (repeat' split at h); all_goals first | omega | cases h) ?_; rw [Try.ntmps115]; simp only [frA]
  (repeat (first | refine j0 ?_ | refine q7 rfl ?_ | refine z7 rfl ?_ | refine j6 ?_ | (refine j4 fun K hK => ?_) | (refine x5 (by kernel_rfl) (by kernel_rfl) fun K hK => ?_) | ((first | refine z6 ?_ | refine x6 ?_ | ((first | refine z2 (hK _ ?_) | refine q6 (hK _ _ (j5 (by kernel_rfl)) ?_)); clear hK K)); (first | show AWP _ _ _ _ _ | ((try simp only [q8]); first | show loopQ _ _ _ _ _ _ | show cutQ _ _ _ _ | show AWP _ _ _ _ _))) | ((first | refine x7 [] rfl ?_ | refine j7 [] rfl ?_); simp (maxSteps := 2000000) (disch := omega) only [go_sem, seval, pnP, pnM, pnP1, pnM1]; (repeat (first | refine ⟨by omega, ?_⟩ | refine ⟨True.intro, ?_⟩)))))
  refine awp_loop (fun s : {s : Nat × Nat × (Nat → Nat) // s.2.1 ≤ 5 ∧ PA key a b x s.1 s.2.2} => paS n gen a b g o s.val.1 s.val.2.1 s.val.2.2) (fun s => 5 - s.val.2.1) ⟨(a + 1, 0, x), by simp only []; omega, ⟨Nat.le_refl _, by omega, PE.refl _ _ _, fun p q h1 h2 h3 => by omega⟩⟩ ?_ (fun s => ?_)
  · unfold paS
    refine Weak.list ?_ ?_; (all_goals simp (disch := omega) only [AllF, AllL, q9, x9, j8, exists_eq_left', Option.some.injEq, go_sem, seval, pnP, pnM, pnP1, pnM1]); (all_goals (repeat' (with_reducible apply And.intro))); (all_goals try (first | exact z8 rfl | (refine j9 ?_; omega) | (refine z8 ?_; simp; done)))
  obtain ⟨⟨i0, j, y⟩, hj, hs⟩ := s
  unfold paS
  simp only [] at hj hs
  have e1 := hs.h1; have e2 := hs.h2
  by_cases hj5 : j < 5
  · (repeat (first | refine j0 ?_ | refine q7 rfl ?_ | refine z7 rfl ?_ | refine j6 ?_ | (refine j4 fun K hK => ?_) | (refine x5 (by kernel_rfl) (by kernel_rfl) fun K hK => ?_) | ((first | refine z6 ?_ | refine x6 ?_ | ((first | refine z2 (hK _ ?_) | refine q6 (hK _ _ (j5 (by kernel_rfl)) ?_)); clear hK K)); (first | show AWP _ _ _ _ _ | ((try simp only [q8]); first | show loopQ _ _ _ _ _ _ | show cutQ _ _ _ _ | show AWP _ _ _ _ _))) | ((first | refine x7 [] rfl ?_ | refine j7 [] rfl ?_); simp (maxSteps := 2000000) (disch := omega) only [go_sem, seval, pnP, pnM, pnP1, pnM1]; (repeat (first | refine ⟨by omega, ?_⟩ | refine ⟨True.intro, ?_⟩)))))
    refine awp_blk (fun i : {i : Nat // PA key a b x i y ∧ (i < b → True)} => paS n gen a b g o i.val j y) ?_ ?_
    · refine awp_loop (fun i : {i : Nat // PA key a b x i y} => paS n gen a b g o i.val j y) (fun s => b - s.val) ⟨i0, hs⟩ ?_ (fun s => ?_)
      · unfold paS
        refine Weak.list ?_ ?_; (all_goals simp (disch := omega) only [AllF, AllL, q9, x9, j8, exists_eq_left', Option.some.injEq, go_sem, seval, pnP, pnM, pnP1, pnM1]); (all_goals (repeat' (with_reducible apply And.intro))); (all_goals try (first | exact z8 rfl | (refine j9 ?_; omega) | (refine z8 ?_; simp; done)))
      obtain ⟨i, hi⟩ := s
      unfold paS
      have g1 := hi.h1; have g2 := hi.h2
      by_cases h : i < b
      · obtain ⟨i, rfl⟩ : ∃ k, i = k + 1 := ⟨i - 1, by omega⟩
        have r1 := rowN_at y (i + 1)
        have r2 := rowN_at y i
        obtain ⟨cc, cl⟩ := lt1 y (i + 1) i hi.pe (by omega) (by omega)
        generalize c (y (i + 1)) (y i) = c0 at cc cl
        by_cases hlt : c0 < 0
        · (repeat (first | refine j0 ?_ | refine q7 rfl ?_ | refine z7 rfl ?_ | refine j6 ?_ | (refine j4 fun K hK => ?_) | (refine x5 (by kernel_rfl) (by kernel_rfl) fun K hK => ?_) | ((first | refine z6 ?_ | refine x6 ?_ | ((first | refine z2 (hK _ ?_) | refine q6 (hK _ _ (j5 (by kernel_rfl)) ?_)); clear hK K)); (first | show AWP _ _ _ _ _ | ((try simp only [q8]); first | show loopQ _ _ _ _ _ _ | show cutQ _ _ _ _ | show AWP _ _ _ _ _))) | ((first | refine q10 rfl rfl rfl ?_ | refine z10 rfl rfl rfl ?_); simp (maxSteps := 2000000) (disch := omega) only [go_sem, seval, pnP, pnM, pnP1, pnM1, r1, r2]; (first | refine ⟨_, cc, ?_⟩)) | ((first | refine x7 [] rfl ?_ | refine j7 [] rfl ?_); simp (maxSteps := 2000000) (disch := omega) only [go_sem, seval, pnP, pnM, pnP1, pnM1, r1, r2]; (repeat (first | refine ⟨by omega, ?_⟩ | refine ⟨True.intro, ?_⟩)))))
          (show cutQ _ _ .normal _); refine cut_n (⟨i + 1, hi, fun _ => trivial⟩) ?_
          refine Weak.list ?_ ?_; (all_goals simp (disch := omega) only [AllF, AllL, q9, x9, j8, exists_eq_left', Option.some.injEq, go_sem, seval, pnP, pnM, pnP1, pnM1, r1, r2]); (all_goals (repeat' (with_reducible apply And.intro))); (all_goals try (first | exact z8 rfl | (refine j9 ?_; omega) | (refine z8 ?_; simp; done)))
        · (repeat (first | refine j0 ?_ | refine q7 rfl ?_ | refine z7 rfl ?_ | refine j6 ?_ | (refine j4 fun K hK => ?_) | (refine x5 (by kernel_rfl) (by kernel_rfl) fun K hK => ?_) | ((first | refine z6 ?_ | refine x6 ?_ | ((first | refine z2 (hK _ ?_) | refine q6 (hK _ _ (j5 (by kernel_rfl)) ?_)); clear hK K)); (first | show AWP _ _ _ _ _ | ((try simp only [q8]); first | show loopQ _ _ _ _ _ _ | show cutQ _ _ _ _ | show AWP _ _ _ _ _))) | ((first | refine q10 rfl rfl rfl ?_ | refine z10 rfl rfl rfl ?_); simp (maxSteps := 2000000) (disch := omega) only [go_sem, seval, pnP, pnM, pnP1, pnM1, r1, r2]; (first | refine ⟨_, cc, ?_⟩)) | ((first | refine x7 [] rfl ?_ | refine j7 [] rfl ?_); simp (maxSteps := 2000000) (disch := omega) only [go_sem, seval, pnP, pnM, pnP1, pnM1, r1, r2]; (repeat (first | refine ⟨by omega, ?_⟩ | refine ⟨True.intro, ?_⟩)))))
          refine ⟨⟨i + 2, hi.up (by omega) (fun e => hlt (cl.2 e))⟩, by simp only []; omega, ?_⟩
          refine Weak.list ?_ ?_; (all_goals simp (disch := omega) only [AllF, AllL, q9, x9, j8, exists_eq_left', Option.some.injEq, go_sem, seval, pnP, pnM, pnP1, pnM1, r1, r2]); (all_goals (repeat' (with_reducible apply And.intro))); (all_goals try (first | exact z8 rfl | (refine j9 ?_; omega) | (refine z8 ?_; simp; done)))
      · (repeat (first | refine j0 ?_ | refine q7 rfl ?_ | refine z7 rfl ?_ | refine j6 ?_ | (refine j4 fun K hK => ?_) | (refine x5 (by kernel_rfl) (by kernel_rfl) fun K hK => ?_) | ((first | refine z6 ?_ | refine x6 ?_ | ((first | refine z2 (hK _ ?_) | refine q6 (hK _ _ (j5 (by kernel_rfl)) ?_)); clear hK K)); (first | show AWP _ _ _ _ _ | ((try simp only [q8]); first | show loopQ _ _ _ _ _ _ | show cutQ _ _ _ _ | show AWP _ _ _ _ _))) | ((first | refine x7 [] rfl ?_ | refine j7 [] rfl ?_); simp (maxSteps := 2000000) (disch := omega) only [go_sem, seval, pnP, pnM, pnP1, pnM1]; (repeat (first | refine ⟨by omega, ?_⟩ | refine ⟨True.intro, ?_⟩)))))
        (show cutQ _ _ .normal _); refine cut_n (⟨i, hi, fun _ => trivial⟩) ?_
        refine Weak.list ?_ ?_; (all_goals simp (disch := omega) only [AllF, AllL, q9, x9, j8, exists_eq_left', Option.some.injEq, go_sem, seval, pnP, pnM, pnP1, pnM1]); (all_goals (repeat' (with_reducible apply And.intro))); (all_goals try (first | exact z8 rfl | (refine j9 ?_; omega) | (refine z8 ?_; simp; done)))
    rintro ⟨i, hi, -⟩
    unfold paS
    clear e1 e2
    simp only []
    have g1 := hi.h1; have g2 := hi.h2
    by_cases hib : i = b
    · subst hib
      have q : ((i : Int) == (i : Int)) = true := ieq_tt rfl
      (repeat (first | refine j0 ?_ | refine q7 rfl ?_ | refine z7 rfl ?_ | refine j6 ?_ | (refine j4 fun K hK => ?_) | (refine x5 (by kernel_rfl) (by kernel_rfl) fun K hK => ?_) | ((first | refine z6 ?_ | refine x6 ?_ | ((first | refine z2 (hK _ ?_) | refine q6 (hK _ _ (j5 (by kernel_rfl)) ?_)); clear hK K)); (first | show AWP _ _ _ _ _ | ((try simp only [q8]); first | show loopQ _ _ _ _ _ _ | show cutQ _ _ _ _ | show AWP _ _ _ _ _))) | ((first | refine x7 [] rfl ?_ | refine j7 [] rfl ?_); simp (maxSteps := 2000000) (disch := omega) only [go_sem, seval, pnP, pnM, pnP1, pnM1, q]; (repeat (first | refine ⟨by omega, ?_⟩ | refine ⟨True.intro, ?_⟩)))))
      exact x8 (retM_of [_] [(1000, _)] ⟨rfl, trivial⟩ (by simp [AL.look] <;> first | rfl | exact ⟨rfl, rfl⟩) ⟨⟨(true, y), hi.pe, fun _ => hi.st⟩, rfl, rfl⟩)
    · have q : ((i : Int) == (b : Int)) = false := ieq_ff (by omega)
      by_cases h50 : b - a < 50
      · (repeat (first | refine j0 ?_ | refine q7 rfl ?_ | refine z7 rfl ?_ | refine j6 ?_ | (refine j4 fun K hK => ?_) | (refine x5 (by kernel_rfl) (by kernel_rfl) fun K hK => ?_) | ((first | refine z6 ?_ | refine x6 ?_ | ((first | refine z2 (hK _ ?_) | refine q6 (hK _ _ (j5 (by kernel_rfl)) ?_)); clear hK K)); (first | show AWP _ _ _ _ _ | ((try simp only [q8]); first | show loopQ _ _ _ _ _ _ | show cutQ _ _ _ _ | show AWP _ _ _ _ _))) | ((first | refine x7 [] rfl ?_ | refine j7 [] rfl ?_); simp (maxSteps := 2000000) (disch := omega) only [go_sem, seval, pnP, pnM, pnP1, pnM1, q]; (repeat (first | refine ⟨by omega, ?_⟩ | refine ⟨True.intro, ?_⟩)))))
        exact x8 (retM_of [_] [(1000, _)] ⟨rfl, trivial⟩ (by simp [AL.look] <;> first | rfl | exact ⟨rfl, rfl⟩) ⟨⟨(false, y), hi.pe, fun h => by cases h⟩, rfl, rfl⟩)
      · obtain ⟨p1, p2⟩ := hi.swap (by omega)
        obtain ⟨i, rfl⟩ : ∃ k, i = k + 1 := ⟨i - 1, by omega⟩
        rw [Nat.add_sub_cancel] at p1 p2
        have r1 := rowN_at y (i + 1)
        have r2 := rowN_at y i
        (repeat ((fail_if_success (show AWP _ _ (.region 12 _ _) _ _)); first | refine j0 ?_ | refine q7 rfl ?_ | refine z7 rfl ?_ | refine j6 ?_ | (refine j4 fun K hK => ?_) | (refine x5 (by kernel_rfl) (by kernel_rfl) fun K hK => ?_) | ((first | refine z6 ?_ | refine x6 ?_ | ((first | refine z2 (hK _ ?_) | refine q6 (hK _ _ (j5 (by kernel_rfl)) ?_)); clear hK K)); (first | show AWP _ _ _ _ _ | ((try simp only [q8]); first | show loopQ _ _ _ _ _ _ | show cutQ _ _ _ _ | show AWP _ _ _ _ _))) | ((first | refine x7 [] rfl ?_ | refine j7 [] rfl ?_); simp (maxSteps := 2000000) (disch := omega) only [go_sem, seval, pnP, pnM, pnP1, pnM1, q, r1, r2]; (repeat (first | refine ⟨by omega, ?_⟩ | refine ⟨True.intro, ?_⟩)))))
        refine awp_weak (A' := paS n gen a b g o (i + 1) j (swp y (i + 1) i)) ?_ ?_
        · unfold paS
          refine Weak.list ?_ ?_; (all_goals simp (disch := omega) only [AllF, AllL, q9, x9, j8, exists_eq_left', Option.some.injEq, go_sem, seval, pnP, pnM, pnP1, pnM1]); (all_goals (repeat' (with_reducible apply And.intro))); (all_goals try (first | exact z8 rfl | (refine j9 ?_; omega) | (refine z8 ?_; simp; done)))
          exact lle_own rfl rfl (fun k _ => putN_two y (i + 1) i k)
        generalize swp y (i + 1) i = y1 at p1 p2
        unfold paS
        refine awp_mid (fun z : {z : Nat → Nat // PE a b x z ∧ Srt key a (i + 1) z} => paS n gen a b g o (i + 1) j z.val) ?_ ?_
        · by_cases h2 : (i + 1) - a ≥ 2
          · (repeat (first | refine j0 ?_ | refine q7 rfl ?_ | refine z7 rfl ?_ | refine j6 ?_ | (refine j4 fun K hK => ?_) | (refine x5 (by kernel_rfl) (by kernel_rfl) fun K hK => ?_) | ((first | refine z6 ?_ | refine x6 ?_ | ((first | refine z2 (hK _ ?_) | refine q6 (hK _ _ (j5 (by kernel_rfl)) ?_)); clear hK K)); (first | show AWP _ _ _ _ _ | ((try simp only [q8]); first | show loopQ _ _ _ _ _ _ | show cutQ _ _ _ _ | show AWP _ _ _ _ _))) | ((first | refine x7 [] rfl ?_ | refine j7 [] rfl ?_); simp (maxSteps := 2000000) (disch := omega) only [go_sem, seval, pnP, pnM, pnP1, pnM1]; (repeat (first | refine ⟨by omega, ?_⟩ | refine ⟨True.intro, ?_⟩)))))
            refine awp_loop (fun s : {s : Nat × (Nat → Nat) // a ≤ s.1 ∧ s.1 ≤ i ∧ PE a b x s.2 ∧ InsAt key a i s.1 s.2} => paL n gen a b g o (i + 1) j s.val.1 s.val.2) (fun s => s.val.1) ⟨(i, y1), by simp only []; omega, Nat.le_refl _, p1, InsAt.start p2⟩ ?_ (fun s => ?_)
            · unfold paL
              refine Weak.list ?_ ?_; (all_goals simp (disch := omega) only [AllF, AllL, q9, x9, j8, exists_eq_left', Option.some.injEq, go_sem, seval, pnP, pnM, pnP1, pnM1]); (all_goals (repeat' (with_reducible apply And.intro))); (all_goals try (first | exact z8 rfl | (refine j9 ?_; omega) | (refine z8 ?_; simp; done)))
            obtain ⟨⟨k, z⟩, hk1, hk2, hpe, hin⟩ := s
            unfold paL
            simp only [] at hk1 hk2 hpe hin
            by_cases hk0 : k = 0
            · subst hk0
              (repeat (first | refine j0 ?_ | refine q7 rfl ?_ | refine z7 rfl ?_ | refine j6 ?_ | (refine j4 fun K hK => ?_) | (refine x5 (by kernel_rfl) (by kernel_rfl) fun K hK => ?_) | ((first | refine z6 ?_ | refine x6 ?_ | ((first | refine z2 (hK _ ?_) | refine q6 (hK _ _ (j5 (by kernel_rfl)) ?_)); clear hK K)); (first | show AWP _ _ _ _ _ | ((try simp only [q8]); first | show loopQ _ _ _ _ _ _ | show cutQ _ _ _ _ | show AWP _ _ _ _ _))) | ((first | refine x7 [] rfl ?_ | refine j7 [] rfl ?_); simp (maxSteps := 2000000) (disch := omega) only [go_sem, seval, pnP, pnM, pnP1, pnM1]; (repeat (first | refine ⟨by omega, ?_⟩ | refine ⟨True.intro, ?_⟩)))))
              (show cutQ _ _ .normal _); refine cut_n (⟨z, hpe, hin.done hk2 (.inl (by omega))⟩) ?_
              unfold paS
              refine Weak.list ?_ ?_; (all_goals simp (disch := omega) only [AllF, AllL, q9, x9, j8, exists_eq_left', Option.some.injEq, go_sem, seval, pnP, pnM, pnP1, pnM1]); (all_goals (repeat' (with_reducible apply And.intro))); (all_goals try (first | exact z8 rfl | (refine j9 ?_; omega) | (refine z8 ?_; simp; done)))
            · obtain ⟨k, rfl⟩ : ∃ m, k = m + 1 := ⟨k - 1, by omega⟩
              have r1 := rowN_at z (k + 1)
              have r2 := rowN_at z k
              obtain ⟨cc, cl⟩ := lt1 z (k + 1) k hpe (by omega) (by omega)
              have hbz := hbl.pe hpe
              generalize c (z (k + 1)) (z k) = c0 at cc cl
              by_cases hlt : c0 < 0
              · (repeat (first | refine j0 ?_ | refine q7 rfl ?_ | refine z7 rfl ?_ | refine j6 ?_ | (refine j4 fun K hK => ?_) | (refine x5 (by kernel_rfl) (by kernel_rfl) fun K hK => ?_) | ((first | refine z6 ?_ | refine x6 ?_ | ((first | refine z2 (hK _ ?_) | refine q6 (hK _ _ (j5 (by kernel_rfl)) ?_)); clear hK K)); (first | show AWP _ _ _ _ _ | ((try simp only [q8]); first | show loopQ _ _ _ _ _ _ | show cutQ _ _ _ _ | show AWP _ _ _ _ _))) | ((first | refine q10 rfl rfl rfl ?_ | refine z10 rfl rfl rfl ?_); simp (maxSteps := 2000000) (disch := omega) only [go_sem, seval, pnP, pnM, pnP1, pnM1, r1, r2]; (first | refine ⟨_, cc, ?_⟩)) | ((first | refine x7 [] rfl ?_ | refine j7 [] rfl ?_); simp (maxSteps := 2000000) (disch := omega) only [go_sem, seval, pnP, pnM, pnP1, pnM1, r1, r2]; (repeat (first | refine ⟨by omega, ?_⟩ | refine ⟨True.intro, ?_⟩)))))
                have hak : a ≤ k := by
                  refine Nat.le_of_not_lt fun hlt2 => ?_
                  have ea : a = k + 1 := by omega
                  have := hbz (k + 1) (by omega) (by omega) (by omega)
                  rw [ea, Nat.add_sub_cancel] at this
                  have := cl.1 hlt
                  omega
                refine ⟨⟨(k, swap2 z k), by simp only []; omega, by simp only []; omega, hpe.trans (by rw [swap2_swp]; exact PE.swp (by omega) (by omega) (by omega) (by omega)), hin.step (by omega) (by omega) (cl.1 hlt)⟩, by simp only []; omega, ?_⟩
                refine Weak.list ?_ ?_; (all_goals simp (disch := omega) only [AllF, AllL, q9, x9, j8, exists_eq_left', Option.some.injEq, go_sem, seval, pnP, pnM, pnP1, pnM1, r1, r2]); (all_goals (repeat' (with_reducible apply And.intro))); (all_goals try (first | exact z8 rfl | (refine j9 ?_; omega) | (refine z8 ?_; simp; done)))
                exact lle_own rfl rfl (fun m _ => (putN_two z (k + 1) k m).trans (by rw [swap2_swp]))
              · (repeat (first | refine j0 ?_ | refine q7 rfl ?_ | refine z7 rfl ?_ | refine j6 ?_ | (refine j4 fun K hK => ?_) | (refine x5 (by kernel_rfl) (by kernel_rfl) fun K hK => ?_) | ((first | refine z6 ?_ | refine x6 ?_ | ((first | refine z2 (hK _ ?_) | refine q6 (hK _ _ (j5 (by kernel_rfl)) ?_)); clear hK K)); (first | show AWP _ _ _ _ _ | ((try simp only [q8]); first | show loopQ _ _ _ _ _ _ | show cutQ _ _ _ _ | show AWP _ _ _ _ _))) | ((first | refine q10 rfl rfl rfl ?_ | refine z10 rfl rfl rfl ?_); simp (maxSteps := 2000000) (disch := omega) only [go_sem, seval, pnP, pnM, pnP1, pnM1, r1, r2]; (first | refine ⟨_, cc, ?_⟩)) | ((first | refine x7 [] rfl ?_ | refine j7 [] rfl ?_); simp (maxSteps := 2000000) (disch := omega) only [go_sem, seval, pnP, pnM, pnP1, pnM1, r1, r2]; (repeat (first | refine ⟨by omega, ?_⟩ | refine ⟨True.intro, ?_⟩)))))
                (show cutQ _ _ .normal _); refine cut_n (⟨z, hpe, hin.done hk2 (.inr (by have : ¬ key (z (k + 1)) < key (z k) := fun e => hlt (cl.2 e); rw [Nat.add_sub_cancel]; omega))⟩) ?_
                unfold paS
                refine Weak.list ?_ ?_; (all_goals simp (disch := omega) only [AllF, AllL, q9, x9, j8, exists_eq_left', Option.some.injEq, go_sem, seval, pnP, pnM, pnP1, pnM1, r1, r2]); (all_goals (repeat' (with_reducible apply And.intro))); (all_goals try (first | exact z8 rfl | (refine j9 ?_; omega) | (refine z8 ?_; simp; done)))
          · (repeat (first | refine j0 ?_ | refine q7 rfl ?_ | refine z7 rfl ?_ | refine j6 ?_ | (refine j4 fun K hK => ?_) | (refine x5 (by kernel_rfl) (by kernel_rfl) fun K hK => ?_) | ((first | refine z6 ?_ | refine x6 ?_ | ((first | refine z2 (hK _ ?_) | refine q6 (hK _ _ (j5 (by kernel_rfl)) ?_)); clear hK K)); (first | show AWP _ _ _ _ _ | ((try simp only [q8]); first | show loopQ _ _ _ _ _ _ | show cutQ _ _ _ _ | show AWP _ _ _ _ _))) | ((first | refine x7 [] rfl ?_ | refine j7 [] rfl ?_); simp (maxSteps := 2000000) (disch := omega) only [go_sem, seval, pnP, pnM, pnP1, pnM1]; (repeat (first | refine ⟨by omega, ?_⟩ | refine ⟨True.intro, ?_⟩)))))
            (show cutQ _ _ .normal _); refine cut_n (⟨y1, p1, fun p q h1 h2 h3 => by omega⟩) ?_
            unfold paS
            refine Weak.list ?_ ?_; (all_goals simp (disch := omega) only [AllF, AllL, q9, x9, j8, exists_eq_left', Option.some.injEq, go_sem, seval, pnP, pnM, pnP1, pnM1]); (all_goals (repeat' (with_reducible apply And.intro))); (all_goals try (first | exact z8 rfl | (refine j9 ?_; omega) | (refine z8 ?_; simp; done)))
        rintro ⟨z, hz, hz2⟩
        unfold paS
        by_cases h2 : b - (i + 1) ≥ 2
        · (repeat (first | refine j0 ?_ | refine q7 rfl ?_ | refine z7 rfl ?_ | refine j6 ?_ | (refine j4 fun K hK => ?_) | (refine x5 (by kernel_rfl) (by kernel_rfl) fun K hK => ?_) | ((first | refine z6 ?_ | refine x6 ?_ | ((first | refine z2 (hK _ ?_) | refine q6 (hK _ _ (j5 (by kernel_rfl)) ?_)); clear hK K)); (first | show AWP _ _ _ _ _ | ((try simp only [q8]); first | show loopQ _ _ _ _ _ _ | show cutQ _ _ _ _ | show AWP _ _ _ _ _))) | ((first | refine x7 [] rfl ?_ | refine j7 [] rfl ?_); simp (maxSteps := 2000000) (disch := omega) only [go_sem, seval, pnP, pnM, pnP1, pnM1]; (repeat (first | refine ⟨by omega, ?_⟩ | refine ⟨True.intro, ?_⟩)))))
          refine awp_loop (fun s : {s : Nat × (Nat → Nat) // i + 2 ≤ s.1 ∧ s.1 ≤ b ∧ PE a b x s.2 ∧ Srt key a (i + 1) s.2} => paR n gen a b g o (i + 1) j s.val.1 s.val.2) (fun s => b - s.val.1) ⟨(i + 2, z), Nat.le_refl _, by simp only []; omega, hz, hz2⟩ ?_ (fun s => ?_)
          · unfold paR
            refine Weak.list ?_ ?_; (all_goals simp (disch := omega) only [AllF, AllL, q9, x9, j8, exists_eq_left', Option.some.injEq, go_sem, seval, pnP, pnM, pnP1, pnM1]); (all_goals (repeat' (with_reducible apply And.intro))); (all_goals try (first | exact z8 rfl | (refine j9 ?_; omega) | (refine z8 ?_; simp; done)))
          obtain ⟨⟨k, u⟩, hk1, hk2, hpe, hst⟩ := s
          unfold paR
          simp only [] at hk1 hk2 hpe hst
          by_cases hkb : k < b
          · obtain ⟨k, rfl⟩ : ∃ m, k = m + 1 := ⟨k - 1, by omega⟩
            have r1 := rowN_at u (k + 1)
            have r2 := rowN_at u k
            obtain ⟨cc, cl⟩ := lt1 u (k + 1) k hpe (by omega) (by omega)
            generalize c (u (k + 1)) (u k) = c0 at cc cl
            by_cases hlt : c0 < 0
            · (repeat (first | refine j0 ?_ | refine q7 rfl ?_ | refine z7 rfl ?_ | refine j6 ?_ | (refine j4 fun K hK => ?_) | (refine x5 (by kernel_rfl) (by kernel_rfl) fun K hK => ?_) | ((first | refine z6 ?_ | refine x6 ?_ | ((first | refine z2 (hK _ ?_) | refine q6 (hK _ _ (j5 (by kernel_rfl)) ?_)); clear hK K)); (first | show AWP _ _ _ _ _ | ((try simp only [q8]); first | show loopQ _ _ _ _ _ _ | show cutQ _ _ _ _ | show AWP _ _ _ _ _))) | ((first | refine q10 rfl rfl rfl ?_ | refine z10 rfl rfl rfl ?_); simp (maxSteps := 2000000) (disch := omega) only [go_sem, seval, pnP, pnM, pnP1, pnM1, r1, r2]; (first | refine ⟨_, cc, ?_⟩)) | ((first | refine x7 [] rfl ?_ | refine j7 [] rfl ?_); simp (maxSteps := 2000000) (disch := omega) only [go_sem, seval, pnP, pnM, pnP1, pnM1, r1, r2]; (repeat (first | refine ⟨by omega, ?_⟩ | refine ⟨True.intro, ?_⟩)))))
              refine ⟨⟨(k + 2, swp u (k + 1) k), by simp only []; omega, by simp only []; omega, hpe.trans (PE.swp (by omega) (by omega) (by omega) (by omega)), fun p q h1 h2 h3 => by
                simp only []
                rw [swp_o _ (by omega) (by omega), swp_o _ (by omega) (by omega)]; exact hst p q h1 h2 h3⟩, by simp only []; omega, ?_⟩
              refine Weak.list ?_ ?_; (all_goals simp (disch := omega) only [AllF, AllL, q9, x9, j8, exists_eq_left', Option.some.injEq, go_sem, seval, pnP, pnM, pnP1, pnM1, r1, r2]); (all_goals (repeat' (with_reducible apply And.intro))); (all_goals try (first | exact z8 rfl | (refine j9 ?_; omega) | (refine z8 ?_; simp; done)))
              exact lle_own rfl rfl (fun m _ => putN_two u (k + 1) k m)
            · (repeat (first | refine j0 ?_ | refine q7 rfl ?_ | refine z7 rfl ?_ | refine j6 ?_ | (refine j4 fun K hK => ?_) | (refine x5 (by kernel_rfl) (by kernel_rfl) fun K hK => ?_) | ((first | refine z6 ?_ | refine x6 ?_ | ((first | refine z2 (hK _ ?_) | refine q6 (hK _ _ (j5 (by kernel_rfl)) ?_)); clear hK K)); (first | show AWP _ _ _ _ _ | ((try simp only [q8]); first | show loopQ _ _ _ _ _ _ | show cutQ _ _ _ _ | show AWP _ _ _ _ _))) | ((first | refine q10 rfl rfl rfl ?_ | refine z10 rfl rfl rfl ?_); simp (maxSteps := 2000000) (disch := omega) only [go_sem, seval, pnP, pnM, pnP1, pnM1, r1, r2]; (first | refine ⟨_, cc, ?_⟩)) | ((first | refine x7 [] rfl ?_ | refine j7 [] rfl ?_); simp (maxSteps := 2000000) (disch := omega) only [go_sem, seval, pnP, pnM, pnP1, pnM1, r1, r2]; (repeat (first | refine ⟨by omega, ?_⟩ | refine ⟨True.intro, ?_⟩)))))
              refine ⟨⟨(i + 1, j + 1, u), by simp only []; omega, ⟨by omega, by omega, hpe, hst⟩⟩, by simp only []; omega, ?_⟩
              refine Weak.list ?_ ?_; (all_goals simp (disch := omega) only [AllF, AllL, q9, x9, j8, exists_eq_left', Option.some.injEq, go_sem, seval, pnP, pnM, pnP1, pnM1, r1, r2]); (all_goals (repeat' (with_reducible apply And.intro))); (all_goals try (first | exact z8 rfl | (refine j9 ?_; omega) | (refine z8 ?_; simp; done)))
          · (repeat (first | refine j0 ?_ | refine q7 rfl ?_ | refine z7 rfl ?_ | refine j6 ?_ | (refine j4 fun K hK => ?_) | (refine x5 (by kernel_rfl) (by kernel_rfl) fun K hK => ?_) | ((first | refine z6 ?_ | refine x6 ?_ | ((first | refine z2 (hK _ ?_) | refine q6 (hK _ _ (j5 (by kernel_rfl)) ?_)); clear hK K)); (first | show AWP _ _ _ _ _ | ((try simp only [q8]); first | show loopQ _ _ _ _ _ _ | show cutQ _ _ _ _ | show AWP _ _ _ _ _))) | ((first | refine x7 [] rfl ?_ | refine j7 [] rfl ?_); simp (maxSteps := 2000000) (disch := omega) only [go_sem, seval, pnP, pnM, pnP1, pnM1]; (repeat (first | refine ⟨by omega, ?_⟩ | refine ⟨True.intro, ?_⟩)))))
            refine ⟨⟨(i + 1, j + 1, u), by simp only []; omega, ⟨by omega, by omega, hpe, hst⟩⟩, by simp only []; omega, ?_⟩
            refine Weak.list ?_ ?_; (all_goals simp (disch := omega) only [AllF, AllL, q9, x9, j8, exists_eq_left', Option.some.injEq, go_sem, seval, pnP, pnM, pnP1, pnM1]); (all_goals (repeat' (with_reducible apply And.intro))); (all_goals try (first | exact z8 rfl | (refine j9 ?_; omega) | (refine z8 ?_; simp; done)))
        · (repeat (first | refine j0 ?_ | refine q7 rfl ?_ | refine z7 rfl ?_ | refine j6 ?_ | (refine j4 fun K hK => ?_) | (refine x5 (by kernel_rfl) (by kernel_rfl) fun K hK => ?_) | ((first | refine z6 ?_ | refine x6 ?_ | ((first | refine z2 (hK _ ?_) | refine q6 (hK _ _ (j5 (by kernel_rfl)) ?_)); clear hK K)); (first | show AWP _ _ _ _ _ | ((try simp only [q8]); first | show loopQ _ _ _ _ _ _ | show cutQ _ _ _ _ | show AWP _ _ _ _ _))) | ((first | refine x7 [] rfl ?_ | refine j7 [] rfl ?_); simp (maxSteps := 2000000) (disch := omega) only [go_sem, seval, pnP, pnM, pnP1, pnM1]; (repeat (first | refine ⟨by omega, ?_⟩ | refine ⟨True.intro, ?_⟩)))))
          refine ⟨⟨(i + 1, j + 1, z), by simp only []; omega, ⟨by omega, by omega, hz, hz2⟩⟩, by simp only []; omega, ?_⟩
          refine Weak.list ?_ ?_; (all_goals simp (disch := omega) only [AllF, AllL, q9, x9, j8, exists_eq_left', Option.some.injEq, go_sem, seval, pnP, pnM, pnP1, pnM1]); (all_goals (repeat' (with_reducible apply And.intro))); (all_goals try (first | exact z8 rfl | (refine j9 ?_; omega) | (refine z8 ?_; simp; done)))
  · (repeat (first | refine j0 ?_ | refine q7 rfl ?_ | refine z7 rfl ?_ | refine j6 ?_ | (refine j4 fun K hK => ?_) | (refine x5 (by kernel_rfl) (by kernel_rfl) fun K hK => ?_) | ((first | refine z6 ?_ | refine x6 ?_ | ((first | refine z2 (hK _ ?_) | refine q6 (hK _ _ (j5 (by kernel_rfl)) ?_)); clear hK K)); (first | show AWP _ _ _ _ _ | ((try simp only [q8]); first | show loopQ _ _ _ _ _ _ | show cutQ _ _ _ _ | show AWP _ _ _ _ _))) | ((first | refine x7 [] rfl ?_ | refine j7 [] rfl ?_); simp (maxSteps := 2000000) (disch := omega) only [go_sem, seval, pnP, pnM, pnP1, pnM1]; (repeat (first | refine ⟨by omega, ?_⟩ | refine ⟨True.intro, ?_⟩)))))
    exact x8 (retM_of [_] [(1000, _)] ⟨rfl, trivial⟩ (by simp [AL.look] <;> first | rfl | exact ⟨rfl, rfl⟩) ⟨⟨(false, y), hs.pe, fun h => by cases h⟩, rfl, rfl⟩)
end Go.Proofs.Ytbiildleaelodaa
set_option linter.unusedSimpArgs false
set_option linter.unusedVariables false
namespace Go.Proofs.Ytbiildleaelodaa
open Go.Proofs.Ytbiildleaelodaa.AL
structure PD (key : Nat → Int) (n N a b : Nat) (x : Nat → Nat) (a' b' : Nat) (y : Nat → Nat) : Prop where
  h1 : a ≤ a'
  h2 : a' ≤ b'
  h3 : b' ≤ b
  pe : PE a b x y
  bl : Blw key a' b' y
  fin : ∀ z, PE a' b' y z → Srt key a' b' z → Srt key a b z
theorem PD.pe' {key : Nat → Int} {n N a b a' b' : Nat} {x y z : Nat → Nat} (h : PD key n N a b x a' b' y) (hp : PE a' b' y z) : PD key n N a b x a' b' z :=
  ⟨h.h1, h.h2, h.h3, h.pe.trans (hp.widen h.h1 h.h2 h.h3), h.bl.pe hp, fun u h1 h2 => h.fin u (hp.trans h1) h2⟩
theorem PD.left {key : Nat → Int} {n N a b a' b' m : Nat} {x y z : Nat → Nat} (h : PD key n N a b x a' b' y) (hm : a' ≤ m) (hm2 : m < b') (hp : Prt key a' m b' y) (h1 : PE a' m y z) (h2 : Srt key a' m z) : PD key n N a b x (m + 1) b' z := by
  have hpz := hp.pe h1 (.inl ⟨Nat.le_refl _, hm, Nat.le_refl _⟩)
  have g1 := h.h1; have g3 := h.h3
  refine ⟨by omega, by omega, g3, h.pe.trans (h1.widen g1 hm (by omega)), fun k k0 k1 k2 => by rw [Nat.add_sub_cancel]; exact hpz.hi k (by omega) k2, fun u u1 u2 => ?_⟩
  refine h.fin u ((h1.widen (Nat.le_refl _) hm (by omega)).trans (u1.widen (by omega) (by omega) (Nat.le_refl _))) ?_
  refine (hpz.pe u1 (.inr ⟨by omega, by omega, Nat.le_refl _⟩)).srt (fun p q q1 q2 q3 => ?_) u2 hm
  rw [u1.out p (by omega), u1.out q (by omega)]
  exact h2 p q q1 q2 q3
theorem PD.right {key : Nat → Int} {n N a b a' b' m : Nat} {x y z : Nat → Nat} (h : PD key n N a b x a' b' y) (hm : a' ≤ m) (hm2 : m < b') (hp : Prt key a' m b' y) (h1 : PE (m + 1) b' y z) (h2 : Srt key (m + 1) b' z) : PD key n N a b x a' m z := by
  have hpz := hp.pe h1 (.inr ⟨by omega, by omega, Nat.le_refl _⟩)
  have g1 := h.h1; have g3 := h.h3
  refine ⟨g1, hm, by omega, h.pe.trans (h1.widen (by omega) (by omega) g3), fun k k0 k1 k2 => ?_, fun u u1 u2 => ?_⟩
  · rw [h1.out (a' - 1) (by omega), h1.out k (by omega)]
    exact h.bl k k0 k1 (by omega)
  · refine h.fin u ((h1.widen (by omega) (by omega) (Nat.le_refl _)).trans (u1.widen (Nat.le_refl _) hm (by omega))) ?_
    refine (hpz.pe u1 (.inl ⟨Nat.le_refl _, hm, Nat.le_refl _⟩)).srt u2 (fun p q q1 q2 q3 => ?_) hm
    rw [u1.out p (by omega), u1.out q (by omega)]
    exact h2 p q q1 q2 q3
def pdS (n gen : Nat) (g : FuncId) (o : PV) (a b : Nat) (lim : Int) (wb wp : Bool) (y : Nat → Nat) : ASt :=
  ⟨[(11, .p (.d (.v (.bool wp)))), (10, .p (.d (.v (.bool wb)))), (4, .p (.fn (.func g) [o] [])), (3, .p (.d (.v (.int .i64 lim)))), (2, .p (.d (.v (.int .i64 (b : Int))))), (1, .p (.d (.v (.int .i64 (a : Int))))), (0, .ow 1000 gen 1 n)],
   [(1000, .own 3 1 n gen (rowN y))]⟩
def pdT (n gen : Nat) (g : FuncId) (o : PV) (a b : Nat) (lim : Int) (wb wp : Bool) (p : Nat) (hint : Int) (y : Nat → Nat) : ASt :=
  ⟨[(14, .p (.d (.v (.int .i64 hint)))), (13, .p (.d (.v (.int .i64 (p : Int))))), (12, .p (.d (.v (.int .i64 ((b : Int) - a))))), (11, .p (.d (.v (.bool wp)))), (10, .p (.d (.v (.bool wb)))), (4, .p (.fn (.func g) [o] [])), (3, .p (.d (.v (.int .i64 lim)))), (2, .p (.d (.v (.int .i64 (b : Int))))), (1, .p (.d (.v (.int .i64 (a : Int))))), (0, .ow 1000 gen 1 n)],
   [(1000, .own 3 1 n gen (rowN y))]⟩
def pdM (n gen : Nat) (g : FuncId) (o : PV) (a b : Nat) (lim : Int) (wb wp : Bool) (y : Nat → Nat) : ASt :=
  ⟨[(12, .p (.d (.v (.int .i64 ((b : Int) - a))))), (11, .p (.d (.v (.bool wp)))), (10, .p (.d (.v (.bool wb)))), (4, .p (.fn (.func g) [o] [])), (3, .p (.d (.v (.int .i64 lim)))), (2, .p (.d (.v (.int .i64 (b : Int))))), (1, .p (.d (.v (.int .i64 (a : Int))))), (0, .ow 1000 gen 1 n)],
   [(1000, .own 3 1 n gen (rowN y))]⟩
set_option maxRecDepth 100000 in
set_option maxHeartbeats 8000000 in
theorem pdq_c {key : Nat → Int} {c : Nat → Nat → Int} {g : FuncId} {o : PV} {N : Nat} (hc : CmpN Try.prog g o N key c) (n gen : Nat) (hn : n ≤ 1099511627776) : ∀ (k : Nat) (x : Nat → Nat) (a b : Nat) (ai bi lim : Int), b - a ≤ k → ai = a → bi = b → a ≤ b → b ≤ n → Dom n N x → Blw key a b x → 0 ≤ lim → lim ≤ 1000 →
    MCalls Try.prog 84 [.ow 1000 gen 1 n, .p (.d (.v (.int .i64 ai))), .p (.d (.v (.int .i64 bi))), .p (.d (.v (.int .i64 lim))), .p (.fn (.func g) [o] [])] [(1000, .own 3 1 n gen (rowN x))]
      (fun rs M => ∃ y : {y : Nat → Nat // PE a b x y ∧ Srt key a b y}, rs = [] ∧ M = [(1000, .own 3 1 n gen (rowN y.val))]) := by
  intro k
  induction k using Nat.strongRecOn with
  | _ k ih =>
  intro x a b ai bi lim0 hk ha' hb' hab hb hx hbl hl0 hl1
  subst ha' hb'
  refine mcalls_of_awp Try.func84 rfl (by decide +kernel) (by rw [Try.ntmps84]; simp) (fun l X h => by simp only [AL.look] at h; (repeat' split at h); all_goals first | omega | cases h) ?_; rw [Try.ntmps84]; simp only [frA]
  (repeat (first | refine j0 ?_ | refine q7 rfl ?_ | refine z7 rfl ?_ | refine j6 ?_ | (refine j4 fun K hK => ?_) | (refine x5 (by kernel_rfl) (by kernel_rfl) fun K hK => ?_) | ((first | refine z6 ?_ | refine x6 ?_ | ((first | refine z2 (hK _ ?_) | refine q6 (hK _ _ (j5 (by kernel_rfl)) ?_)); clear hK K)); (first | show AWP _ _ _ _ _ | ((try simp only [q8]); first | show loopQ _ _ _ _ _ _ | show cutQ _ _ _ _ | show AWP _ _ _ _ _))) | ((first | refine x7 [] rfl ?_ | refine j7 [] rfl ?_); simp (maxSteps := 2000000) (disch := omega) only [go_sem, seval, pnP, pnM, pnP1, pnM1]; (repeat (first | refine ⟨by omega, ?_⟩ | refine ⟨True.intro, ?_⟩)))))
  refine awp_loop (fun s : {s : Nat × Nat × Int × Bool × Bool × (Nat → Nat) // 0 ≤ s.2.2.1 ∧ s.2.2.1 ≤ 1000 ∧ PD key n N a b x s.1 s.2.1 s.2.2.2.2.2} => pdS n gen g o s.val.1 s.val.2.1 s.val.2.2.1 s.val.2.2.2.1 s.val.2.2.2.2.1 s.val.2.2.2.2.2) (fun s => s.val.2.1 - s.val.1) ⟨(a, b, lim0, true, true, x), hl0, hl1, ⟨Nat.le_refl _, hab, Nat.le_refl _, PE.refl _ _ _, hbl, fun z _ h => h⟩⟩ ?_ (fun s => ?_)
  · unfold pdS
    refine Weak.list ?_ ?_; (all_goals simp (disch := omega) only [AllF, AllL, q9, x9, j8, exists_eq_left', Option.some.injEq, go_sem, seval, pnP, pnM, pnP1, pnM1]); (all_goals (repeat' (with_reducible apply And.intro))); (all_goals try (first | exact z8 rfl | (refine j9 ?_; omega) | (refine z8 ?_; simp; done)))
  obtain ⟨⟨a1, b1, lim, wb, wp, y⟩, l0, l1, hs⟩ := s
  unfold pdS
  simp only [] at l0 l1 hs
  have g1 := hs.h1; have g2 := hs.h2; have g3 := hs.h3
  have dy := hx.pe hs.pe hab hb
  by_cases h12 : b1 - a1 ≤ 12
  · (repeat (first | refine j0 ?_ | refine q7 rfl ?_ | refine z7 rfl ?_ | refine j6 ?_ | (refine j4 fun K hK => ?_) | (refine x5 (by kernel_rfl) (by kernel_rfl) fun K hK => ?_) | ((first | refine z6 ?_ | refine x6 ?_ | ((first | refine z2 (hK _ ?_) | refine q6 (hK _ _ (j5 (by kernel_rfl)) ?_)); clear hK K)); (first | show AWP _ _ _ _ _ | ((try simp only [q8]); first | show loopQ _ _ _ _ _ _ | show cutQ _ _ _ _ | show AWP _ _ _ _ _))) | ((first | refine x7 [] rfl ?_ | refine j7 [] rfl ?_); simp (maxSteps := 2000000) (disch := omega) only [go_sem, seval, pnP, pnM, pnP1, pnM1]; (repeat (first | refine ⟨by omega, ?_⟩ | refine ⟨True.intro, ?_⟩)))))
    (refine walkS_ex (step_mcallX [(1000, 1000)] rfl rfl rfl rfl rfl rfl (insN_c hc y n gen a1 b1 a1 b1 rfl rfl g2 (by omega) hn dy) (fun _ => rfl) (j11 (by repeat (first | exact trivial | refine ⟨rfl, ?_⟩)) (by kernel_rfl)) (fun _ => (j11 (by repeat (first | exact trivial | refine ⟨rfl, ?_⟩)) (by kernel_rfl)))) ?_); rintro ⟨z,hz,hz2⟩; simp (maxSteps := 2000000) (disch := omega) only [go_sem, seval, pnP, pnM, pnP1, pnM1]
    (repeat (first | refine j0 ?_ | refine q7 rfl ?_ | refine z7 rfl ?_ | refine j6 ?_ | (refine j4 fun K hK => ?_) | (refine x5 (by kernel_rfl) (by kernel_rfl) fun K hK => ?_) | ((first | refine z6 ?_ | refine x6 ?_ | ((first | refine z2 (hK _ ?_) | refine q6 (hK _ _ (j5 (by kernel_rfl)) ?_)); clear hK K)); (first | show AWP _ _ _ _ _ | ((try simp only [q8]); first | show loopQ _ _ _ _ _ _ | show cutQ _ _ _ _ | show AWP _ _ _ _ _))) | ((first | refine x7 [] rfl ?_ | refine j7 [] rfl ?_); simp (maxSteps := 2000000) (disch := omega) only [go_sem, seval, pnP, pnM, pnP1, pnM1]; (repeat (first | refine ⟨by omega, ?_⟩ | refine ⟨True.intro, ?_⟩)))))
    (first | (refine z2 (hK _ ?_); refine And.left (retM_void (l := 1000) rfl rfl ?_)) | (refine x6 ?_; refine And.left (retM_void (l := 1000) rfl rfl ?_)) | (refine z6 ?_; refine And.left (retM_void (l := 1000) rfl rfl ?_)) | (refine x8 ?_; refine And.right (retM_void (l := 1000) rfl rfl ?_)) | refine And.left (retM_void (l := 1000) rfl rfl ?_))
    exact ⟨⟨z, hs.pe.trans (hz.widen g1 g2 g3), hs.fin z hz hz2⟩, rfl, rfl⟩
  by_cases hlim : lim = 0
  · subst hlim
    (repeat (first | refine j0 ?_ | refine q7 rfl ?_ | refine z7 rfl ?_ | refine j6 ?_ | (refine j4 fun K hK => ?_) | (refine x5 (by kernel_rfl) (by kernel_rfl) fun K hK => ?_) | ((first | refine z6 ?_ | refine x6 ?_ | ((first | refine z2 (hK _ ?_) | refine q6 (hK _ _ (j5 (by kernel_rfl)) ?_)); clear hK K)); (first | show AWP _ _ _ _ _ | ((try simp only [q8]); first | show loopQ _ _ _ _ _ _ | show cutQ _ _ _ _ | show AWP _ _ _ _ _))) | ((first | refine x7 [] rfl ?_ | refine j7 [] rfl ?_); simp (maxSteps := 2000000) (disch := omega) only [go_sem, seval, pnP, pnM, pnP1, pnM1]; (repeat (first | refine ⟨by omega, ?_⟩ | refine ⟨True.intro, ?_⟩)))))
    (refine walkS_ex (step_mcallX [(1000, 1000)] rfl rfl rfl rfl rfl rfl (heapN_c hc y n gen a1 b1 a1 b1 rfl rfl (by omega) (by omega) hn dy) (fun _ => rfl) (j11 (by repeat (first | exact trivial | refine ⟨rfl, ?_⟩)) (by kernel_rfl)) (fun _ => (j11 (by repeat (first | exact trivial | refine ⟨rfl, ?_⟩)) (by kernel_rfl)))) ?_); rintro ⟨z,hz,hz2⟩; simp (maxSteps := 2000000) (disch := omega) only [go_sem, seval, pnP, pnM, pnP1, pnM1]
    (repeat (first | refine j0 ?_ | refine q7 rfl ?_ | refine z7 rfl ?_ | refine j6 ?_ | (refine j4 fun K hK => ?_) | (refine x5 (by kernel_rfl) (by kernel_rfl) fun K hK => ?_) | ((first | refine z6 ?_ | refine x6 ?_ | ((first | refine z2 (hK _ ?_) | refine q6 (hK _ _ (j5 (by kernel_rfl)) ?_)); clear hK K)); (first | show AWP _ _ _ _ _ | ((try simp only [q8]); first | show loopQ _ _ _ _ _ _ | show cutQ _ _ _ _ | show AWP _ _ _ _ _))) | ((first | refine x7 [] rfl ?_ | refine j7 [] rfl ?_); simp (maxSteps := 2000000) (disch := omega) only [go_sem, seval, pnP, pnM, pnP1, pnM1]; (repeat (first | refine ⟨by omega, ?_⟩ | refine ⟨True.intro, ?_⟩)))))
    (first | (refine z2 (hK _ ?_); refine And.left (retM_void (l := 1000) rfl rfl ?_)) | (refine x6 ?_; refine And.left (retM_void (l := 1000) rfl rfl ?_)) | (refine z6 ?_; refine And.left (retM_void (l := 1000) rfl rfl ?_)) | (refine x8 ?_; refine And.right (retM_void (l := 1000) rfl rfl ?_)) | refine And.left (retM_void (l := 1000) rfl rfl ?_))
    exact ⟨⟨z, hs.pe.trans (hz.widen g1 g2 g3), hs.fin z hz hz2⟩, rfl, rfl⟩
  have qlim : (lim == 0) = false := ieq_ff hlim
  (repeat ((fail_if_success (show AWP _ _ (.region 7 _ _) _ _)); first | refine j0 ?_ | refine q7 rfl ?_ | refine z7 rfl ?_ | refine j6 ?_ | (refine j4 fun K hK => ?_) | (refine x5 (by kernel_rfl) (by kernel_rfl) fun K hK => ?_) | ((first | refine z6 ?_ | refine x6 ?_ | ((first | refine z2 (hK _ ?_) | refine q6 (hK _ _ (j5 (by kernel_rfl)) ?_)); clear hK K)); (first | show AWP _ _ _ _ _ | ((try simp only [q8]); first | show loopQ _ _ _ _ _ _ | show cutQ _ _ _ _ | show AWP _ _ _ _ _))) | ((first | refine x7 [] rfl ?_ | refine j7 [] rfl ?_); simp (maxSteps := 2000000) (disch := omega) only [go_sem, seval, pnP, pnM, pnP1, pnM1, qlim]; (repeat (first | refine ⟨by omega, ?_⟩ | refine ⟨True.intro, ?_⟩)))))
  refine awp_weak (A' := pdM n gen g o a1 b1 lim wb wp y) ?_ ?_
  · unfold pdM
    refine Weak.list ?_ ?_; (all_goals simp (disch := omega) only [AllF, AllL, q9, x9, j8, exists_eq_left', Option.some.injEq, go_sem, seval, pnP, pnM, pnP1, pnM1, qlim]); (all_goals (repeat' (with_reducible apply And.intro))); (all_goals try (first | exact z8 rfl | (refine j9 ?_; omega) | (refine z8 ?_; simp; done)))
  unfold pdM
  refine awp_mid (fun s : {s : Int × (Nat → Nat) // 0 ≤ s.1 ∧ s.1 ≤ 1000 ∧ PD key n N a b x a1 b1 s.2} => pdM n gen g o a1 b1 s.val.1 wb wp s.val.2) ?_ ?_
  · cases wb
    · (repeat (first | refine j0 ?_ | refine q7 rfl ?_ | refine z7 rfl ?_ | refine j6 ?_ | (refine j4 fun K hK => ?_) | (refine x5 (by kernel_rfl) (by kernel_rfl) fun K hK => ?_) | ((first | refine z6 ?_ | refine x6 ?_ | ((first | refine z2 (hK _ ?_) | refine q6 (hK _ _ (j5 (by kernel_rfl)) ?_)); clear hK K)); (first | show AWP _ _ _ _ _ | ((try simp only [q8]); first | show loopQ _ _ _ _ _ _ | show cutQ _ _ _ _ | show AWP _ _ _ _ _))) | ((first | refine x7 [] rfl ?_ | refine j7 [] rfl ?_); simp (maxSteps := 2000000) (disch := omega) only [go_sem, seval, pnP, pnM, pnP1, pnM1]; (repeat (first | refine ⟨by omega, ?_⟩ | refine ⟨True.intro, ?_⟩)))))
      (refine walkS_ex (step_mcallX [(1000, 1000)] rfl rfl rfl rfl rfl rfl (break_c (.fn (.func g) [o] []) y n gen a1 b1 (by omega) (by omega) hn) (fun _ => rfl) (j11 (by repeat (first | exact trivial | refine ⟨rfl, ?_⟩)) (by kernel_rfl)) (fun _ => (j11 (by repeat (first | exact trivial | refine ⟨rfl, ?_⟩)) (by kernel_rfl)))) ?_); rintro ⟨z,hz⟩; simp (maxSteps := 2000000) (disch := omega) only [go_sem, seval, pnP, pnM, pnP1, pnM1]
      (repeat (first | refine j0 ?_ | refine q7 rfl ?_ | refine z7 rfl ?_ | refine j6 ?_ | (refine j4 fun K hK => ?_) | (refine x5 (by kernel_rfl) (by kernel_rfl) fun K hK => ?_) | ((first | refine z6 ?_ | refine x6 ?_ | ((first | refine z2 (hK _ ?_) | refine q6 (hK _ _ (j5 (by kernel_rfl)) ?_)); clear hK K)); (first | show AWP _ _ _ _ _ | ((try simp only [q8]); first | show loopQ _ _ _ _ _ _ | show cutQ _ _ _ _ | show AWP _ _ _ _ _))) | ((first | refine x7 [] rfl ?_ | refine j7 [] rfl ?_); simp (maxSteps := 2000000) (disch := omega) only [go_sem, seval, pnP, pnM, pnP1, pnM1]; (repeat (first | refine ⟨by omega, ?_⟩ | refine ⟨True.intro, ?_⟩)))))
      (show cutQ _ _ .normal _); refine cut_n (⟨(lim - 1, z), by simp only []; omega, by simp only []; omega, hs.pe' hz⟩) ?_
      unfold pdM
      refine Weak.list ?_ ?_; (all_goals simp (disch := omega) only [AllF, AllL, q9, x9, j8, exists_eq_left', Option.some.injEq, go_sem, seval, pnP, pnM, pnP1, pnM1]); (all_goals (repeat' (with_reducible apply And.intro))); (all_goals try (first | exact z8 rfl | (refine j9 ?_; omega) | (refine z8 ?_; simp; done)))
    · (repeat (first | refine j0 ?_ | refine q7 rfl ?_ | refine z7 rfl ?_ | refine j6 ?_ | (refine j4 fun K hK => ?_) | (refine x5 (by kernel_rfl) (by kernel_rfl) fun K hK => ?_) | ((first | refine z6 ?_ | refine x6 ?_ | ((first | refine z2 (hK _ ?_) | refine q6 (hK _ _ (j5 (by kernel_rfl)) ?_)); clear hK K)); (first | show AWP _ _ _ _ _ | ((try simp only [q8]); first | show loopQ _ _ _ _ _ _ | show cutQ _ _ _ _ | show AWP _ _ _ _ _))) | ((first | refine x7 [] rfl ?_ | refine j7 [] rfl ?_); simp (maxSteps := 2000000) (disch := omega) only [go_sem, seval, pnP, pnM, pnP1, pnM1]; (repeat (first | refine ⟨by omega, ?_⟩ | refine ⟨True.intro, ?_⟩)))))
      (show cutQ _ _ .normal _); refine cut_n (⟨(lim, y), l0, l1, hs⟩) ?_
      unfold pdM
      refine Weak.list ?_ ?_; (all_goals simp (disch := omega) only [AllF, AllL, q9, x9, j8, exists_eq_left', Option.some.injEq, go_sem, seval, pnP, pnM, pnP1, pnM1]); (all_goals (repeat' (with_reducible apply And.intro))); (all_goals try (first | exact z8 rfl | (refine j9 ?_; omega) | (refine z8 ?_; simp; done)))
  rintro ⟨⟨lim, y⟩, l0, l1, hs⟩
  unfold pdM
  simp only [] at l0 l1 hs ⊢
  have dy := hx.pe hs.pe hab hb
  (repeat (first | refine j0 ?_ | refine q7 rfl ?_ | refine z7 rfl ?_ | refine j6 ?_ | (refine j4 fun K hK => ?_) | (refine x5 (by kernel_rfl) (by kernel_rfl) fun K hK => ?_) | ((first | refine z6 ?_ | refine x6 ?_ | ((first | refine z2 (hK _ ?_) | refine q6 (hK _ _ (j5 (by kernel_rfl)) ?_)); clear hK K)); (first | show AWP _ _ _ _ _ | ((try simp only [q8]); first | show loopQ _ _ _ _ _ _ | show cutQ _ _ _ _ | show AWP _ _ _ _ _))) | ((first | refine x7 [] rfl ?_ | refine j7 [] rfl ?_); simp (maxSteps := 2000000) (disch := omega) only [go_sem, seval, pnP, pnM, pnP1, pnM1]; (repeat (first | refine ⟨by omega, ?_⟩ | refine ⟨True.intro, ?_⟩)))))
  (refine walkS_ex (step_mcallX [(1000, 1000)] rfl rfl rfl rfl rfl rfl (choose_c hc y n gen a1 b1 (by omega) (by omega) hn dy) (fun _ => rfl) (j11 (by repeat (first | exact trivial | refine ⟨rfl, ?_⟩)) (by kernel_rfl)) (fun _ => (j11 (by repeat (first | exact trivial | refine ⟨rfl, ?_⟩)) (by kernel_rfl)))) ?_); rintro ⟨⟨p,hint⟩,hp1,hp2,hh⟩; simp (maxSteps := 2000000) (disch := omega) only [go_sem, seval, pnP, pnM, pnP1, pnM1]
  simp only [] at hp1 hp2 hh
  (repeat ((fail_if_success (show AWP _ _ (.region 11 _ _) _ _)); first | refine j0 ?_ | refine q7 rfl ?_ | refine z7 rfl ?_ | refine j6 ?_ | (refine j4 fun K hK => ?_) | (refine x5 (by kernel_rfl) (by kernel_rfl) fun K hK => ?_) | ((first | refine z6 ?_ | refine x6 ?_ | ((first | refine z2 (hK _ ?_) | refine q6 (hK _ _ (j5 (by kernel_rfl)) ?_)); clear hK K)); (first | show AWP _ _ _ _ _ | ((try simp only [q8]); first | show loopQ _ _ _ _ _ _ | show cutQ _ _ _ _ | show AWP _ _ _ _ _))) | ((first | refine x7 [] rfl ?_ | refine j7 [] rfl ?_); simp (maxSteps := 2000000) (disch := omega) only [go_sem, seval, pnP, pnM, pnP1, pnM1]; (repeat (first | refine ⟨by omega, ?_⟩ | refine ⟨True.intro, ?_⟩)))))
  refine awp_weak (A' := pdT n gen g o a1 b1 lim wb wp p hint y) ?_ ?_
  · unfold pdT
    refine Weak.list ?_ ?_; (all_goals simp (disch := omega) only [AllF, AllL, q9, x9, j8, exists_eq_left', Option.some.injEq, go_sem, seval, pnP, pnM, pnP1, pnM1]); (all_goals (repeat' (with_reducible apply And.intro))); (all_goals try (first | exact z8 rfl | (refine j9 ?_; omega) | (refine z8 ?_; simp; done)))
  unfold pdT
  refine awp_mid (fun s : {s : Nat × Int × (Nat → Nat) // a1 ≤ s.1 ∧ s.1 < b1 ∧ (s.2.1 = 0 ∨ s.2.1 = 1) ∧ PD key n N a b x a1 b1 s.2.2} => pdT n gen g o a1 b1 lim wb wp s.val.1 s.val.2.1 s.val.2.2) ?_ ?_
  · rcases hh with rfl | rfl | rfl
    · (repeat (first | refine j0 ?_ | refine q7 rfl ?_ | refine z7 rfl ?_ | refine j6 ?_ | (refine j4 fun K hK => ?_) | (refine x5 (by kernel_rfl) (by kernel_rfl) fun K hK => ?_) | ((first | refine z6 ?_ | refine x6 ?_ | ((first | refine z2 (hK _ ?_) | refine q6 (hK _ _ (j5 (by kernel_rfl)) ?_)); clear hK K)); (first | show AWP _ _ _ _ _ | ((try simp only [q8]); first | show loopQ _ _ _ _ _ _ | show cutQ _ _ _ _ | show AWP _ _ _ _ _))) | ((first | refine x7 [] rfl ?_ | refine j7 [] rfl ?_); simp (maxSteps := 2000000) (disch := omega) only [go_sem, seval, pnP, pnM, pnP1, pnM1]; (repeat (first | refine ⟨by omega, ?_⟩ | refine ⟨True.intro, ?_⟩)))))
      (show cutQ _ _ .normal _); refine cut_n (⟨(p, 0, y), hp1, hp2, .inl rfl, hs⟩) ?_
      unfold pdT
      refine Weak.list ?_ ?_; (all_goals simp (disch := omega) only [AllF, AllL, q9, x9, j8, exists_eq_left', Option.some.injEq, go_sem, seval, pnP, pnM, pnP1, pnM1]); (all_goals (repeat' (with_reducible apply And.intro))); (all_goals try (first | exact z8 rfl | (refine j9 ?_; omega) | (refine z8 ?_; simp; done)))
    · (repeat (first | refine j0 ?_ | refine q7 rfl ?_ | refine z7 rfl ?_ | refine j6 ?_ | (refine j4 fun K hK => ?_) | (refine x5 (by kernel_rfl) (by kernel_rfl) fun K hK => ?_) | ((first | refine z6 ?_ | refine x6 ?_ | ((first | refine z2 (hK _ ?_) | refine q6 (hK _ _ (j5 (by kernel_rfl)) ?_)); clear hK K)); (first | show AWP _ _ _ _ _ | ((try simp only [q8]); first | show loopQ _ _ _ _ _ _ | show cutQ _ _ _ _ | show AWP _ _ _ _ _))) | ((first | refine x7 [] rfl ?_ | refine j7 [] rfl ?_); simp (maxSteps := 2000000) (disch := omega) only [go_sem, seval, pnP, pnM, pnP1, pnM1]; (repeat (first | refine ⟨by omega, ?_⟩ | refine ⟨True.intro, ?_⟩)))))
      (show cutQ _ _ .normal _); refine cut_n (⟨(p, 1, y), hp1, hp2, .inr rfl, hs⟩) ?_
      unfold pdT
      refine Weak.list ?_ ?_; (all_goals simp (disch := omega) only [AllF, AllL, q9, x9, j8, exists_eq_left', Option.some.injEq, go_sem, seval, pnP, pnM, pnP1, pnM1]); (all_goals (repeat' (with_reducible apply And.intro))); (all_goals try (first | exact z8 rfl | (refine j9 ?_; omega) | (refine z8 ?_; simp; done)))
    · (repeat (first | refine j0 ?_ | refine q7 rfl ?_ | refine z7 rfl ?_ | refine j6 ?_ | (refine j4 fun K hK => ?_) | (refine x5 (by kernel_rfl) (by kernel_rfl) fun K hK => ?_) | ((first | refine z6 ?_ | refine x6 ?_ | ((first | refine z2 (hK _ ?_) | refine q6 (hK _ _ (j5 (by kernel_rfl)) ?_)); clear hK K)); (first | show AWP _ _ _ _ _ | ((try simp only [q8]); first | show loopQ _ _ _ _ _ _ | show cutQ _ _ _ _ | show AWP _ _ _ _ _))) | ((first | refine x7 [] rfl ?_ | refine j7 [] rfl ?_); simp (maxSteps := 2000000) (disch := omega) only [go_sem, seval, pnP, pnM, pnP1, pnM1]; (repeat (first | refine ⟨by omega, ?_⟩ | refine ⟨True.intro, ?_⟩)))))
      (refine walkS_ex (step_mcallX [(1000, 1000)] rfl rfl rfl rfl rfl rfl (reverse_c (.fn (.func g) [o] []) y n gen a1 b1 (by omega) (by omega) hn) (fun _ => rfl) (j11 (by repeat (first | exact trivial | refine ⟨rfl, ?_⟩)) (by kernel_rfl)) (fun _ => (j11 (by repeat (first | exact trivial | refine ⟨rfl, ?_⟩)) (by kernel_rfl)))) ?_); rintro ⟨z,hz⟩; simp (maxSteps := 2000000) (disch := omega) only [go_sem, seval, pnP, pnM, pnP1, pnM1]
      (repeat (first | refine j0 ?_ | refine q7 rfl ?_ | refine z7 rfl ?_ | refine j6 ?_ | (refine j4 fun K hK => ?_) | (refine x5 (by kernel_rfl) (by kernel_rfl) fun K hK => ?_) | ((first | refine z6 ?_ | refine x6 ?_ | ((first | refine z2 (hK _ ?_) | refine q6 (hK _ _ (j5 (by kernel_rfl)) ?_)); clear hK K)); (first | show AWP _ _ _ _ _ | ((try simp only [q8]); first | show loopQ _ _ _ _ _ _ | show cutQ _ _ _ _ | show AWP _ _ _ _ _))) | ((first | refine x7 [] rfl ?_ | refine j7 [] rfl ?_); simp (maxSteps := 2000000) (disch := omega) only [go_sem, seval, pnP, pnM, pnP1, pnM1]; (repeat (first | refine ⟨by omega, ?_⟩ | refine ⟨True.intro, ?_⟩)))))
      (show cutQ _ _ .normal _); refine cut_n (⟨(b1 - 1 - (p - a1), 1, z), by simp only []; omega, by simp only []; omega, .inr rfl, hs.pe' hz⟩) ?_
      unfold pdT
      refine Weak.list ?_ ?_; (all_goals simp (disch := omega) only [AllF, AllL, q9, x9, j8, exists_eq_left', Option.some.injEq, go_sem, seval, pnP, pnM, pnP1, pnM1]); (all_goals (repeat' (with_reducible apply And.intro))); (all_goals try (first | exact z8 rfl | (refine j9 ?_; omega) | (refine z8 ?_; simp; done)))
  rintro ⟨⟨p, hint, y⟩, hp1, hp2, hh, hs⟩
  unfold pdT
  simp only [] at hp1 hp2 hh hs ⊢
  have dy := hx.pe hs.pe hab hb
  refine j0 ?_
  refine j0 ?_
  refine awp_mid (fun z : {z : Nat → Nat // PD key n N a b x a1 b1 z} => pdT n gen g o a1 b1 lim wb wp p hint z.val) ?_ ?_
  · by_cases hw : wb = true ∧ wp = true ∧ hint = 1
    · obtain ⟨rfl, rfl, rfl⟩ := hw
      (repeat (first | refine j0 ?_ | refine q7 rfl ?_ | refine z7 rfl ?_ | refine j6 ?_ | (refine j4 fun K hK => ?_) | (refine x5 (by kernel_rfl) (by kernel_rfl) fun K hK => ?_) | ((first | refine z6 ?_ | refine x6 ?_ | ((first | refine z2 (hK _ ?_) | refine q6 (hK _ _ (j5 (by kernel_rfl)) ?_)); clear hK K)); (first | show AWP _ _ _ _ _ | ((try simp only [q8]); first | show loopQ _ _ _ _ _ _ | show cutQ _ _ _ _ | show AWP _ _ _ _ _))) | ((first | refine x7 [] rfl ?_ | refine j7 [] rfl ?_); simp (maxSteps := 2000000) (disch := omega) only [go_sem, seval, pnP, pnM, pnP1, pnM1]; (repeat (first | refine ⟨by omega, ?_⟩ | refine ⟨True.intro, ?_⟩)))))
      (refine walkS_ex (step_mcallX [(1000, 1000)] rfl rfl rfl rfl rfl rfl (partial_c hc y n gen a1 b1 (by omega) (by omega) hn dy hs.bl) (fun _ => rfl) (j11 (by repeat (first | exact trivial | refine ⟨rfl, ?_⟩)) (by kernel_rfl)) (fun _ => (j11 (by repeat (first | exact trivial | refine ⟨rfl, ?_⟩)) (by kernel_rfl)))) ?_); rintro ⟨⟨r,z⟩,hz,hz2⟩; simp (maxSteps := 2000000) (disch := omega) only [go_sem, seval, pnP, pnM, pnP1, pnM1]
      simp only [] at hz hz2
      cases r
      · (repeat (first | refine j0 ?_ | refine q7 rfl ?_ | refine z7 rfl ?_ | refine j6 ?_ | (refine j4 fun K hK => ?_) | (refine x5 (by kernel_rfl) (by kernel_rfl) fun K hK => ?_) | ((first | refine z6 ?_ | refine x6 ?_ | ((first | refine z2 (hK _ ?_) | refine q6 (hK _ _ (j5 (by kernel_rfl)) ?_)); clear hK K)); (first | show AWP _ _ _ _ _ | ((try simp only [q8]); first | show loopQ _ _ _ _ _ _ | show cutQ _ _ _ _ | show AWP _ _ _ _ _))) | ((first | refine x7 [] rfl ?_ | refine j7 [] rfl ?_); simp (maxSteps := 2000000) (disch := omega) only [go_sem, seval, pnP, pnM, pnP1, pnM1]; (repeat (first | refine ⟨by omega, ?_⟩ | refine ⟨True.intro, ?_⟩)))))
        (show cutQ _ _ .normal _); refine cut_n (⟨z, hs.pe' hz⟩) ?_
        unfold pdT
        refine Weak.list ?_ ?_; (all_goals simp (disch := omega) only [AllF, AllL, q9, x9, j8, exists_eq_left', Option.some.injEq, go_sem, seval, pnP, pnM, pnP1, pnM1]); (all_goals (repeat' (with_reducible apply And.intro))); (all_goals try (first | exact z8 rfl | (refine j9 ?_; omega) | (refine z8 ?_; simp; done)))
      · (repeat (first | refine j0 ?_ | refine q7 rfl ?_ | refine z7 rfl ?_ | refine j6 ?_ | (refine j4 fun K hK => ?_) | (refine x5 (by kernel_rfl) (by kernel_rfl) fun K hK => ?_) | ((first | refine z6 ?_ | refine x6 ?_ | ((first | refine z2 (hK _ ?_) | refine q6 (hK _ _ (j5 (by kernel_rfl)) ?_)); clear hK K)); (first | show AWP _ _ _ _ _ | ((try simp only [q8]); first | show loopQ _ _ _ _ _ _ | show cutQ _ _ _ _ | show AWP _ _ _ _ _))) | ((first | refine x7 [] rfl ?_ | refine j7 [] rfl ?_); simp (maxSteps := 2000000) (disch := omega) only [go_sem, seval, pnP, pnM, pnP1, pnM1]; (repeat (first | refine ⟨by omega, ?_⟩ | refine ⟨True.intro, ?_⟩)))))
        refine x8 (cutQ_ret ?_)
        refine And.right (retM_void (l := 1000) rfl rfl ?_)
        exact ⟨⟨z, hs.pe.trans (hz.widen g1 g2 g3), hs.fin z hz (hz2 rfl)⟩, rfl, rfl⟩
    · have hq : wb = false ∨ (wb = true ∧ wp = false) ∨ (wb = true ∧ wp = true ∧ hint = 0) := by
        cases wb
        · exact .inl rfl
        · cases wp
          · exact .inr (.inl ⟨rfl, rfl⟩)
          · rcases hh with h | h
            · exact .inr (.inr ⟨rfl, rfl, h⟩)
            · exact absurd ⟨rfl, rfl, h⟩ hw
      rcases hq with rfl | ⟨rfl, rfl⟩ | ⟨rfl, rfl, rfl⟩
      all_goals
        (repeat (first | refine j0 ?_ | refine q7 rfl ?_ | refine z7 rfl ?_ | refine j6 ?_ | (refine j4 fun K hK => ?_) | (refine x5 (by kernel_rfl) (by kernel_rfl) fun K hK => ?_) | ((first | refine z6 ?_ | refine x6 ?_ | ((first | refine z2 (hK _ ?_) | refine q6 (hK _ _ (j5 (by kernel_rfl)) ?_)); clear hK K)); (first | show AWP _ _ _ _ _ | ((try simp only [q8]); first | show loopQ _ _ _ _ _ _ | show cutQ _ _ _ _ | show AWP _ _ _ _ _))) | ((first | refine x7 [] rfl ?_ | refine j7 [] rfl ?_); simp (maxSteps := 2000000) (disch := omega) only [go_sem, seval, pnP, pnM, pnP1, pnM1]; (repeat (first | refine ⟨by omega, ?_⟩ | refine ⟨True.intro, ?_⟩)))))
        (show cutQ _ _ .normal _); refine cut_n (⟨y, hs⟩) ?_
        unfold pdT
        refine Weak.list ?_ ?_; (all_goals simp (disch := omega) only [AllF, AllL, q9, x9, j8, exists_eq_left', Option.some.injEq, go_sem, seval, pnP, pnM, pnP1, pnM1]); (all_goals (repeat' (with_reducible apply And.intro))); (all_goals try (first | exact z8 rfl | (refine j9 ?_; omega) | (refine z8 ?_; simp; done)))
  rintro ⟨y, hs⟩
  unfold pdT
  simp only [] at hs ⊢
  have dy := hx.pe hs.pe hab hb
  refine j0 ?_
  refine j0 ?_
  refine awp_mid (fun z : Unit => pdT n gen g o a1 b1 lim wb wp p hint y) ?_ ?_
  · by_cases ha0 : a1 = 0
    · subst ha0
      (repeat (first | refine j0 ?_ | refine q7 rfl ?_ | refine z7 rfl ?_ | refine j6 ?_ | (refine j4 fun K hK => ?_) | (refine x5 (by kernel_rfl) (by kernel_rfl) fun K hK => ?_) | ((first | refine z6 ?_ | refine x6 ?_ | ((first | refine z2 (hK _ ?_) | refine q6 (hK _ _ (j5 (by kernel_rfl)) ?_)); clear hK K)); (first | show AWP _ _ _ _ _ | ((try simp only [q8]); first | show loopQ _ _ _ _ _ _ | show cutQ _ _ _ _ | show AWP _ _ _ _ _))) | ((first | refine x7 [] rfl ?_ | refine j7 [] rfl ?_); simp (maxSteps := 2000000) (disch := omega) only [go_sem, seval, pnP, pnM, pnP1, pnM1]; (repeat (first | refine ⟨by omega, ?_⟩ | refine ⟨True.intro, ?_⟩)))))
      (show cutQ _ _ .normal _); refine cut_n (()) ?_
      unfold pdT
      refine Weak.list ?_ ?_; (all_goals simp (disch := omega) only [AllF, AllL, q9, x9, j8, exists_eq_left', Option.some.injEq, go_sem, seval, pnP, pnM, pnP1, pnM1]); (all_goals (repeat' (with_reducible apply And.intro))); (all_goals try (first | exact z8 rfl | (refine j9 ?_; omega) | (refine z8 ?_; simp; done)))
    · obtain ⟨a2, rfl⟩ : ∃ m, a1 = m + 1 := ⟨a1 - 1, by omega⟩
      have r1 := rowN_at y a2
      have r2 := rowN_at y p
      have cc := hc.call (y a2) (y p) (dy.lt _ (by omega)) (dy.lt _ (by omega))
      have cl := hc.lt (y a2) (y p) (dy.lt _ (by omega)) (dy.lt _ (by omega))
      have ci := hc.inj (y a2) (y p) (dy.lt _ (by omega)) (dy.lt _ (by omega))
      have hle := hs.bl p (by omega) (by omega) (by omega)
      rw [Nat.add_sub_cancel] at hle
      have hne : key (y a2) ≠ key (y p) := fun e => by
        have := dy.inj (by omega) (by omega) (ci e)
        omega
      generalize c (y a2) (y p) = c0 at cc cl
      have hlt : c0 < 0 := cl.2 (by omega)
      (repeat (first | refine j0 ?_ | refine q7 rfl ?_ | refine z7 rfl ?_ | refine j6 ?_ | (refine j4 fun K hK => ?_) | (refine x5 (by kernel_rfl) (by kernel_rfl) fun K hK => ?_) | ((first | refine z6 ?_ | refine x6 ?_ | ((first | refine z2 (hK _ ?_) | refine q6 (hK _ _ (j5 (by kernel_rfl)) ?_)); clear hK K)); (first | show AWP _ _ _ _ _ | ((try simp only [q8]); first | show loopQ _ _ _ _ _ _ | show cutQ _ _ _ _ | show AWP _ _ _ _ _))) | ((first | refine q10 rfl rfl rfl ?_ | refine z10 rfl rfl rfl ?_); simp (maxSteps := 2000000) (disch := omega) only [go_sem, seval, pnP, pnM, pnP1, pnM1, r1, r2]; (first | refine ⟨_, cc, ?_⟩)) | ((first | refine x7 [] rfl ?_ | refine j7 [] rfl ?_); simp (maxSteps := 2000000) (disch := omega) only [go_sem, seval, pnP, pnM, pnP1, pnM1, r1, r2]; (repeat (first | refine ⟨by omega, ?_⟩ | refine ⟨True.intro, ?_⟩)))))
      (show cutQ _ _ .normal _); refine cut_n (()) ?_
      unfold pdT
      refine Weak.list ?_ ?_; (all_goals simp (disch := omega) only [AllF, AllL, q9, x9, j8, exists_eq_left', Option.some.injEq, go_sem, seval, pnP, pnM, pnP1, pnM1, r1, r2]); (all_goals (repeat' (with_reducible apply And.intro))); (all_goals try (first | exact z8 rfl | (refine j9 ?_; omega) | (refine z8 ?_; simp; done)))
  rintro ⟨⟩
  unfold pdT
  generalize he8 : ((b1 : Int) - (a1 : Int)).tdiv 8 = t8
  (repeat (first | refine j0 ?_ | refine q7 rfl ?_ | refine z7 rfl ?_ | refine j6 ?_ | (refine j4 fun K hK => ?_) | (refine x5 (by kernel_rfl) (by kernel_rfl) fun K hK => ?_) | ((first | refine z6 ?_ | refine x6 ?_ | ((first | refine z2 (hK _ ?_) | refine q6 (hK _ _ (j5 (by kernel_rfl)) ?_)); clear hK K)); (first | show AWP _ _ _ _ _ | ((try simp only [q8]); first | show loopQ _ _ _ _ _ _ | show cutQ _ _ _ _ | show AWP _ _ _ _ _))) | ((first | refine x7 [] rfl ?_ | refine j7 [] rfl ?_); simp (maxSteps := 2000000) (disch := omega) only [go_sem, seval, pnP, pnM, pnP1, pnM1, he8]; (repeat (first | refine ⟨by omega, ?_⟩ | refine ⟨True.intro, ?_⟩)))))
  (refine walkS_ex (step_mcallX [(1000, 1000)] rfl rfl rfl rfl rfl rfl (partition_c hc y n gen a1 b1 p (by omega) hp1 hp2 (by omega) hn dy) (fun _ => rfl) (j11 (by repeat (first | exact trivial | refine ⟨rfl, ?_⟩)) (by kernel_rfl)) (fun _ => (j11 (by repeat (first | exact trivial | refine ⟨rfl, ?_⟩)) (by kernel_rfl)))) ?_); rintro ⟨⟨m,wp2,z⟩,hm1,hm2,hm3,hm4⟩; simp (maxSteps := 2000000) (disch := omega) only [go_sem, seval, pnP, pnM, pnP1, pnM1, he8]
  simp only [] at hm1 hm2 hm3 hm4
  have hs' := hs.pe' hm3
  have dz := hx.pe hs'.pe hab hb
  by_cases hside : m - a1 < b1 - m
  · (repeat (first | refine j0 ?_ | refine q7 rfl ?_ | refine z7 rfl ?_ | refine j6 ?_ | (refine j4 fun K hK => ?_) | (refine x5 (by kernel_rfl) (by kernel_rfl) fun K hK => ?_) | ((first | refine z6 ?_ | refine x6 ?_ | ((first | refine z2 (hK _ ?_) | refine q6 (hK _ _ (j5 (by kernel_rfl)) ?_)); clear hK K)); (first | show AWP _ _ _ _ _ | ((try simp only [q8]); first | show loopQ _ _ _ _ _ _ | show cutQ _ _ _ _ | show AWP _ _ _ _ _))) | ((first | refine x7 [] rfl ?_ | refine j7 [] rfl ?_); simp (maxSteps := 2000000) (disch := omega) only [go_sem, seval, pnP, pnM, pnP1, pnM1, he8]; (repeat (first | refine ⟨by omega, ?_⟩ | refine ⟨True.intro, ?_⟩)))))
    (refine walkS_ex (step_mcallX [(1000, 1000)] rfl rfl rfl rfl rfl rfl (ih (m - a1) (by omega) z a1 m a1 m lim (Nat.le_refl _) rfl rfl hm1 (by omega) dz (fun k k0 k1 k2 => hs'.bl k k0 k1 (by omega)) l0 l1) (fun _ => rfl) (j11 (by repeat (first | exact trivial | refine ⟨rfl, ?_⟩)) (by kernel_rfl)) (fun _ => (j11 (by repeat (first | exact trivial | refine ⟨rfl, ?_⟩)) (by kernel_rfl)))) ?_); rintro ⟨u,hu,hu2⟩; simp (maxSteps := 2000000) (disch := omega) only [go_sem, seval, pnP, pnM, pnP1, pnM1, he8]
    (repeat (first | refine j0 ?_ | refine q7 rfl ?_ | refine z7 rfl ?_ | refine j6 ?_ | (refine j4 fun K hK => ?_) | (refine x5 (by kernel_rfl) (by kernel_rfl) fun K hK => ?_) | ((first | refine z6 ?_ | refine x6 ?_ | ((first | refine z2 (hK _ ?_) | refine q6 (hK _ _ (j5 (by kernel_rfl)) ?_)); clear hK K)); (first | show AWP _ _ _ _ _ | ((try simp only [q8]); first | show loopQ _ _ _ _ _ _ | show cutQ _ _ _ _ | show AWP _ _ _ _ _))) | ((first | refine x7 [] rfl ?_ | refine j7 [] rfl ?_); simp (maxSteps := 2000000) (disch := omega) only [go_sem, seval, pnP, pnM, pnP1, pnM1, he8]; (repeat (first | refine ⟨by omega, ?_⟩ | refine ⟨True.intro, ?_⟩)))))
    refine ⟨⟨(m + 1, b1, lim, decide ((m : Int) - a1 ≥ IntKind.i64.wrap t8), wp2, u), l0, l1, hs'.left hm1 hm2 hm4 hu hu2⟩, by simp only []; omega, ?_⟩
    refine Weak.list ?_ ?_; (all_goals simp (disch := omega) only [AllF, AllL, q9, x9, j8, exists_eq_left', Option.some.injEq, go_sem, seval, pnP, pnM, pnP1, pnM1, he8]); (all_goals (repeat' (with_reducible apply And.intro))); (all_goals try (first | exact z8 rfl | (refine j9 ?_; omega) | (refine z8 ?_; simp; done)))
  · (repeat (first | refine j0 ?_ | refine q7 rfl ?_ | refine z7 rfl ?_ | refine j6 ?_ | (refine j4 fun K hK => ?_) | (refine x5 (by kernel_rfl) (by kernel_rfl) fun K hK => ?_) | ((first | refine z6 ?_ | refine x6 ?_ | ((first | refine z2 (hK _ ?_) | refine q6 (hK _ _ (j5 (by kernel_rfl)) ?_)); clear hK K)); (first | show AWP _ _ _ _ _ | ((try simp only [q8]); first | show loopQ _ _ _ _ _ _ | show cutQ _ _ _ _ | show AWP _ _ _ _ _))) | ((first | refine x7 [] rfl ?_ | refine j7 [] rfl ?_); simp (maxSteps := 2000000) (disch := omega) only [go_sem, seval, pnP, pnM, pnP1, pnM1, he8]; (repeat (first | refine ⟨by omega, ?_⟩ | refine ⟨True.intro, ?_⟩)))))
    (refine walkS_ex (step_mcallX [(1000, 1000)] rfl rfl rfl rfl rfl rfl (ih (b1 - (m + 1)) (by omega) z (m + 1) b1 ((m : Int) + 1) b1 lim (Nat.le_refl _) (by omega) rfl (by omega) (by omega) dz (fun k k0 k1 k2 => by rw [Nat.add_sub_cancel]; exact hm4.hi k (by omega) k2) l0 l1) (fun _ => rfl) (j11 (by repeat (first | exact trivial | refine ⟨rfl, ?_⟩)) (by kernel_rfl)) (fun _ => (j11 (by repeat (first | exact trivial | refine ⟨rfl, ?_⟩)) (by kernel_rfl)))) ?_); rintro ⟨u,hu,hu2⟩; simp (maxSteps := 2000000) (disch := omega) only [go_sem, seval, pnP, pnM, pnP1, pnM1, he8]
    (repeat (first | refine j0 ?_ | refine q7 rfl ?_ | refine z7 rfl ?_ | refine j6 ?_ | (refine j4 fun K hK => ?_) | (refine x5 (by kernel_rfl) (by kernel_rfl) fun K hK => ?_) | ((first | refine z6 ?_ | refine x6 ?_ | ((first | refine z2 (hK _ ?_) | refine q6 (hK _ _ (j5 (by kernel_rfl)) ?_)); clear hK K)); (first | show AWP _ _ _ _ _ | ((try simp only [q8]); first | show loopQ _ _ _ _ _ _ | show cutQ _ _ _ _ | show AWP _ _ _ _ _))) | ((first | refine x7 [] rfl ?_ | refine j7 [] rfl ?_); simp (maxSteps := 2000000) (disch := omega) only [go_sem, seval, pnP, pnM, pnP1, pnM1, he8]; (repeat (first | refine ⟨by omega, ?_⟩ | refine ⟨True.intro, ?_⟩)))))
    refine ⟨⟨(a1, m, lim, decide ((b1 : Int) - m ≥ IntKind.i64.wrap t8), wp2, u), l0, l1, hs'.right hm1 hm2 hm4 hu hu2⟩, by simp only []; omega, ?_⟩
    refine Weak.list ?_ ?_; (all_goals simp (disch := omega) only [AllF, AllL, q9, x9, j8, exists_eq_left', Option.some.injEq, go_sem, seval, pnP, pnM, pnP1, pnM1, he8]); (all_goals (repeat' (with_reducible apply And.intro))); (all_goals try (first | exact z8 rfl | (refine j9 ?_; omega) | (refine z8 ?_; simp; done)))
set_option maxRecDepth 100000 in
set_option maxHeartbeats 2000000 in
theorem SortN_c {key : Nat → Int} {c : Nat → Nat → Int} {g : FuncId} {o : PV} {N : Nat} (hc : CmpN Try.prog g o N key c) (x : Nat → Nat) (n gen : Nat) (hn : n ≤ 1099511627776) (hx : Dom n N x) :
    MCalls Try.prog 62 [.ow 1000 gen 1 n, .p (.fn (.func g) [o] [])] [(1000, .own 3 1 n gen (rowN x))]
      (fun rs M => ∃ y : {y : Nat → Nat // PE 0 n x y ∧ Srt key 0 n y}, rs = [] ∧ M = [(1000, .own 3 1 n gen (rowN y.val))]) := by
  have bl := bitsLen_c n hn
  have hL : Go.Lib.bitLen n ≤ 41 := by
    by_cases h0 : n = 0
    · subst h0; decide
    · have h := bitLen_pow h0 (show n < 2 ^ 64 by omega)
      have h2 : 2 ^ Go.Lib.bitLen n ≤ 2 ^ 41 := by omega
      exact (Nat.pow_le_pow_iff_right (by omega)).1 h2
  generalize Go.Lib.bitLen n = L at bl hL
  have e1 : IntKind.u64.wrap (n : Int) = (n : Int) := wu (by omega)
  refine mcalls_of_awp Try.func62 rfl (by decide +kernel) (by rw [Try.ntmps62]; simp) (fun l X h => by simp only [AL.look] at h; (repeat' split at h); all_goals first | omega | cases h) ?_; rw [Try.ntmps62]; simp only [frA]
  (repeat (first | refine j0 ?_ | refine q7 rfl ?_ | refine z7 rfl ?_ | refine j6 ?_ | (refine j4 fun K hK => ?_) | (refine x5 (by kernel_rfl) (by kernel_rfl) fun K hK => ?_) | ((first | refine z6 ?_ | refine x6 ?_ | ((first | refine z2 (hK _ ?_) | refine q6 (hK _ _ (j5 (by kernel_rfl)) ?_)); clear hK K)); (first | show AWP _ _ _ _ _ | ((try simp only [q8]); first | show loopQ _ _ _ _ _ _ | show cutQ _ _ _ _ | show AWP _ _ _ _ _))) | ((first | refine q10 rfl rfl rfl ?_ | refine z10 rfl rfl rfl ?_); simp (maxSteps := 2000000) (disch := omega) only [go_sem, seval, pnP, pnM, pnP1, pnM1, e1]; (first | refine ⟨_, bl, ?_⟩)) | ((first | refine x7 [] rfl ?_ | refine j7 [] rfl ?_); simp (maxSteps := 2000000) (disch := omega) only [go_sem, seval, pnP, pnM, pnP1, pnM1, e1]; (repeat (first | refine ⟨by omega, ?_⟩ | refine ⟨True.intro, ?_⟩)))))
  (refine walkS_ex (step_mcallX [(1000, 1000)] rfl rfl rfl rfl rfl rfl (pdq_c hc n gen hn n x 0 n 0 n L (by omega) rfl rfl (by omega) (by omega) hx (fun k h0 h1 h2 => by omega) (by omega) (by omega)) (fun _ => rfl) (j11 (by repeat (first | exact trivial | refine ⟨rfl, ?_⟩)) (by kernel_rfl)) (fun _ => (j11 (by repeat (first | exact trivial | refine ⟨rfl, ?_⟩)) (by kernel_rfl)))) ?_); rintro ⟨y,hy,hy2⟩; simp (maxSteps := 2000000) (disch := omega) only [go_sem, seval, pnP, pnM, pnP1, pnM1, e1]
  (repeat (first | refine j0 ?_ | refine q7 rfl ?_ | refine z7 rfl ?_ | refine j6 ?_ | (refine j4 fun K hK => ?_) | (refine x5 (by kernel_rfl) (by kernel_rfl) fun K hK => ?_) | ((first | refine z6 ?_ | refine x6 ?_ | ((first | refine z2 (hK _ ?_) | refine q6 (hK _ _ (j5 (by kernel_rfl)) ?_)); clear hK K)); (first | show AWP _ _ _ _ _ | ((try simp only [q8]); first | show loopQ _ _ _ _ _ _ | show cutQ _ _ _ _ | show AWP _ _ _ _ _))) | ((first | refine x7 [] rfl ?_ | refine j7 [] rfl ?_); simp (maxSteps := 2000000) (disch := omega) only [go_sem, seval, pnP, pnM, pnP1, pnM1, e1]; (repeat (first | refine ⟨by omega, ?_⟩ | refine ⟨True.intro, ?_⟩)))))
  (first | (refine z2 (hK _ ?_); refine And.left (retM_void (l := 1000) rfl rfl ?_)) | (refine x6 ?_; refine And.left (retM_void (l := 1000) rfl rfl ?_)) | (refine z6 ?_; refine And.left (retM_void (l := 1000) rfl rfl ?_)) | (refine x8 ?_; refine And.right (retM_void (l := 1000) rfl rfl ?_)) | refine And.left (retM_void (l := 1000) rfl rfl ?_))
  exact ⟨⟨y, hy, hy2⟩, rfl, rfl⟩
end Go.Proofs.Ytbiildleaelodaa
set_option linter.unusedSimpArgs false
set_option linter.unusedVariables false
namespace Go.Proofs.Ytbiildleaelodaa.AL
open Go
theorem Weak.ownCell (A : ASt) (l0 l j sz : Nat) (e e' : TypeId) (cs : List AV) (f : Nat → List Dat) (hl0 : look A.locs l0 = some (.cells e cs)) (hj : cs[j]? = some (.p (.d (.v (.slice none 0 0))))) (hne : l0 ≠ l)
    (hu : unusedB A l = true) (hn : look A.locs l = none) : Weak A ⟨A.fr, (l, .own e' sz 0 0 f) :: (l0, .cells e (cs.set j (.ow l 0 sz 0))) :: A.locs⟩ := by
  intro w0 g0 nt h a w r
  let h' : Gh := { h with κ := fun k => if k = l then .slice none 0 0 else h.κ k, μ := fun k => if k = l then 0 else h.μ k }
  have un := unusedB_spec hu
  have tr : Trans w0.O w h w h' (fun _ => False) (some l) true := by
    refine ⟨BelowS.refl _ _, fun b _ _ => ⟨rfl, rfl⟩, ⟨fun b => Nat.le_refl _, fun b o _ => rfl⟩, r.gz, fun b _ => rfl, fun _ _ => rfl, fun k hk => ?_, fun k _ hf => by cases hf⟩
    have : k ≠ l := fun e => hk (by rw [e])
    simp [h', this]
  have nl : h'.κ l = .slice none 0 0 := by simp [h']
  have nm : h'.μ l = 0 := by simp [h']
  have old : ∀ k L, k ≠ l → look A.locs k = some L → LocOK w0.O w h' k L ∧ inB h' k L = inB h k L := fun k L hk hL =>
    LocOK.trans tr (fun e => hk (by cases e; rfl)) (fun _ l' hl' hm => by cases hl'; exact un.2.1 k L hL hm) (fun b _ => by simp) (r.locs k L hL)
  have cell0 : LocOK w0.O w h' l0 (.cells e (cs.set j (.ow l 0 sz 0))) := by
    obtain ⟨arr, c1, c2, c3, c4, c5⟩ := (old l0 _ hne hl0).1
    refine ⟨arr, c1, c2, by simpa using c3, c4, fun i v x hv hx => ?_⟩
    by_cases hi : i = j
    · subst hi
      have hlt := (List.getElem?_eq_some_iff.1 hj).1
      rw [List.getElem?_set_self hlt] at hx
      cases hx
      obtain ⟨k1, k2⟩ := c5 i v _ hv hj
      have hv0 := relA_nil k1
      refine ⟨?_, k2⟩
      rw [hv0]
      exact ⟨by omega, ⟨_, _, rfl, fun hh => by omega⟩, fun _ => nl.symm⟩
    · rw [List.getElem?_set_ne (fun e => hi e.symm)] at hx
      exact c5 i v x hv hx
  refine ⟨h', r.size, r.defers, fun u y hy => ?_, fun k L hL => ?_, fun k k' L L' b hne2 hL hL' hbk => ?_, r.ext, fun k hk => ?_⟩
  · exact RelA.trans tr (fun _ l' hl' hm => by cases hl'; exact un.1 u y hy hm) (r.fr u y hy)
  · simp only [look] at hL
    split at hL
    · rename_i e2; subst e2; cases hL
      exact ⟨nm, ⟨[], by rw [nl]; exact World.ownsRow_nil _ _ _ _, fun i hi => by omega, fun i j d hi => by omega⟩, fun b hb => by rw [nl] at hb; simp [Value.ownBlock] at hb⟩
    · rename_i hk
      split at hL
      · rename_i e2; subst e2; cases hL; exact cell0
      · exact (old k L (fun e => hk e.symm) hL).1
  · have two : ∀ {k : Nat} {L : LV}, look ((l, LV.own e' sz 0 0 f) :: (l0, .cells e (cs.set j (.ow l 0 sz 0))) :: A.locs) k = some L → inB h' k L b → k ≠ l ∧ ∃ L0, look A.locs k = some L0 ∧ inB h k L0 b := by
      intro k L hL hb
      simp only [look] at hL
      split at hL
      · rename_i e2; subst e2; cases hL
        simp [inB, nl, Value.ownBlock] at hb
      · rename_i hk
        refine ⟨fun e => hk e.symm, ?_⟩
        split at hL
        · rename_i e2; subst e2; cases hL
          exact ⟨_, hl0, hb⟩
        · exact ⟨L, hL, by rw [← (old k L (fun e => hk e.symm) hL).2]; exact hb⟩
    intro hin
    obtain ⟨a1, L1, a2, a3⟩ := two hL hbk
    obtain ⟨b1, L2, b2, b3⟩ := two hL' hin
    exact r.sep k k' L1 L2 b hne2 a2 b2 a3 b3
  · have : k ≠ l := by have := un.2.2; omega
    simp only [h', if_neg this]
    exact r.pin k hk
theorem awp_ownCell {P : Program} {nt : Nat} {c : Code} {Q : Exit → ASt → Prop} {A : ASt} (l0 l j sz : Nat) (e' : TypeId) (f : Nat → List Dat) {e : TypeId} {cs : List AV} (hl0 : look A.locs l0 = some (.cells e cs)) (hj : cs[j]? = some (.p (.d (.v (.slice none 0 0))))) (hne : l0 ≠ l)
    (hu : unusedB A l = true) (hn : look A.locs l = none) (h : AWP P nt c Q ⟨A.fr, (l, .own e' sz 0 0 f) :: (l0, .cells e (cs.set j (.ow l 0 sz 0))) :: A.locs⟩) : AWP P nt c Q A := awp_weak (Weak.ownCell A l0 l j sz e e' cs f hl0 hj hne hu hn) h
end Go.Proofs.Ytbiildleaelodaa.AL
set_option linter.unusedSimpArgs false
set_option linter.unusedVariables false
namespace Go.Proofs.Ytbiildleaelodaa.AL
open Go
theorem Weak.frz (A : ASt) (u l : Nat) (f : Fn) (e : TypeId) (cs : List AV) (ds : List Dat) (hu : look A.fr u = some (.cl f [.loc l 0] [])) (hl : look A.locs l = some (.cells e cs))
    (hd : ∀ (j : Nat) (d : Dat), ds[j]? = some d → cs[j]? = some (AV.p (PV.d d))) :
    Weak A ⟨(u, .p (.fn f [.d (.bx ds)] [])) :: A.fr, (l, .fz e cs) :: A.locs⟩ := by
  intro w0 g0 nt h a w r
  obtain ⟨arr, c7, c2, c5, c6, c8⟩ := r.locs l _ hl
  have hv : RelA w h (a.tmps.getD u _root_.Go.undef) (.cl f [.loc l 0] []) := r.fr u _ hu
  have hbl : h.ρ l < w.heap.size := (Array.getElem?_eq_some_iff.1 c2).1
  have hlen : ds.length ≤ arr.size := by
    rw [c5]
    by_cases h0 : ds.length = 0
    · omega
    · have := (List.getElem?_eq_some_iff.1 (hd (ds.length - 1) (ds[ds.length - 1]'(by omega)) (List.getElem?_eq_getElem _))).1
      omega
  generalize hb : h.ρ l = b at *
  let h' : Gh := { h with g := setG h.g b arr.size }
  have hkeep : Keep w h.g w h'.g := by
    refine ⟨fun k => ?_, fun k q hq => rfl⟩
    simp only [h', setG]; split
    · rename_i e; rw [e, c6]; exact Nat.zero_le _
    · exact Nat.le_refl _
  have gz' : GZ w h'.g := fun k hk => by
    have : k ≠ b := by omega
    simp only [h', setG, if_neg this]; exact r.gz k hk
  have tr : Trans w0.O w h w h' (fun k => b = k) none false := by
    refine ⟨BelowS.refl _ _, fun k _ hk => ⟨rfl, ?_⟩, hkeep, gz', fun k hk => ?_, fun _ _ => rfl, fun k _ => ⟨rfl, rfl⟩, fun k hk => by cases hk⟩
    · have : k ≠ b := fun e => hk e.symm
      simp [h', setG, this]
    · have : k ≠ b := fun e => hk (e ▸ c7)
      simp [h', setG, this]
  have ho : ∀ k L, k ≠ l → look A.locs k = some L → LocOK w0.O w h' k L ∧ inB h' k L = inB h k L := by
    intro k L k1 k2
    refine LocOK.trans tr (by simp) (fun hf => by cases hf) (fun b' hb' e => ?_) (r.locs k L k2)
    cases e
    exact r.sep k l L _ b k1 k2 hl hb' (by simp [inB, hb])
  have hself : LocOK w0.O w h' l (.fz e cs) := by
    refine ⟨arr, by rw [show h'.ρ l = b from hb]; exact c7, by rw [show h'.ρ l = b from hb]; exact c2, c5, by rw [show h'.ρ l = b from hb]; simp [h', setG], fun i v x hvi hx => ?_⟩
    exact ⟨RelA.trans tr (fun hf => by cases hf) (c8 i v x hvi hx).1, (c8 i v x hvi hx).2⟩
  refine ⟨h', r.size, r.defers, fun t y hy => ?_, fun k L hk => ?_, fun k k' L L' b' h1 h2 h3 h4 => ?_, ⟨r.ext.below, fun k hk => (tr.gB k hk).trans (r.ext.gam k hk), gz', r.ext.keep.trans hkeep⟩, r.pin⟩
  · simp only [look] at hy
    split at hy
    · rename_i e'; subst e'; cases hy
      obtain ⟨vs, us, ev, ⟨l1, k1⟩, ⟨l2, k2⟩⟩ := hv
      rw [ev]
      refine .fn f vs us _ _ (by simpa using l1) (by simpa using l2) (fun j v x hvj hx => ?_) (fun j v x _ hx => by simp at hx)
      match j, hx with
      | 0, hx =>
        cases hx
        have e2 : v = .pointer (some ⟨h.ρ l, 0, none⟩) := k1 0 v (.loc l 0) hvj rfl
        rw [e2, hb]
        refine .d _ _ (.bx b 0 ds (fun j => (arr[j]?).getD _root_.Go.undef) (fun j hj => ?_) (by simp [h', setG]; exact hlen) (fun j x hx => ?_))
        · rw [Nat.zero_add, heap_cell c2]
          simp [show j < arr.size by omega]
        · have hj := (List.getElem?_eq_some_iff.1 hx).1
          have hja : arr[j]? = some arr[j] := by simp [show j < arr.size by omega]
          have h3 := (c8 j _ _ hja (hd j x hx)).1
          rw [hja]
          show RelD w h'.g arr[j] x
          revert h3
          generalize arr[j] = v
          intro h3
          cases h3 with
          | d _ _ h3 => exact h3.keep hkeep
      | j + 1, hx => simp at hx
    · exact RelA.trans tr (fun hf => by cases hf) (r.fr t y hy)
  · simp only [look] at hk
    split at hk
    · rename_i e'; subst e'; cases hk; exact hself
    · rename_i e'
      exact (ho k L (fun x => e' x.symm) hk).1
  · have two : ∀ {k : Nat} {L : LV}, look ((l, LV.fz e cs) :: A.locs) k = some L → inB h' k L b' → ∃ L0, look A.locs k = some L0 ∧ inB h k L0 b' := by
      intro k L hk hi
      simp only [look] at hk
      split at hk
      · rename_i e'; subst e'; cases hk
        exact ⟨_, hl, hi⟩
      · rename_i e'
        exact ⟨L, hk, by rw [← (ho k L (fun x => e' x.symm) hk).2]; exact hi⟩
    intro hin
    obtain ⟨L0, g1, g2⟩ := two h2 h4
    obtain ⟨L1, g3, g4⟩ := two h3 hin
    exact r.sep k k' L0 L1 b' h1 g1 g3 g2 g4
end Go.Proofs.Ytbiildleaelodaa.AL
set_option linter.unusedSimpArgs false
set_option linter.unusedVariables false
namespace Go.Proofs.Ytbiildleaelodaa
open Go.Proofs.Ytbiildleaelodaa.AL
def orI (p q : Int) : Int := if p = 0 then q else p
set_option maxHeartbeats 2000000 in
theorem OrI_c (p q : Int) : ACalls Try.prog 86 [.d (.sl 1 2 fun i => [[Dat.v (.int .i64 p)], [Dat.v (.int .i64 q)]].getD i [])] (· = [.d (.v (.int .i64 (orI p q)))]) := by
  unfold orI
  refine j10 Try.func86 rfl (by decide +kernel) (by rw [Try.ntmps86]; simp) ?_; rw [Try.ntmps86]; simp only [frOf]
  (repeat (first | refine j0 ?_ | refine q7 rfl ?_ | refine z7 rfl ?_ | refine j6 ?_ | (refine j4 fun K hK => ?_) | (refine x5 (by kernel_rfl) (by kernel_rfl) fun K hK => ?_) | ((first | refine z6 ?_ | refine x6 ?_ | ((first | refine z2 (hK _ ?_) | refine q6 (hK _ _ (j5 (by kernel_rfl)) ?_)); clear hK K)); (first | show AWP _ _ _ _ _ | ((try simp only [q8]); first | show loopQ _ _ _ _ _ _ | show cutQ _ _ _ _ | show AWP _ _ _ _ _))) | ((first | refine x7 [] rfl ?_ | refine j7 [] rfl ?_); simp (maxSteps := 2000000) (disch := omega) only [go_sem, seval, hd, cb, ruleD]; (repeat (first | refine ⟨by omega, ?_⟩ | refine ⟨True.intro, ?_⟩)))))
  refine awp_loop (fun i : {i : Nat // i ≤ 2 ∧ (0 < i → p = 0) ∧ (1 < i → q = 0)} => ⟨[(8, .p (.d (.v (.int .i64 (i.val : Int))))), (7, .p (.d (.v (.int .i64 2)))), (6, .p (.d (.sl 1 2 fun i => [[Dat.v (.int .i64 p)], [Dat.v (.int .i64 q)]].getD i []))), (3, .p (.d (.v (.int .i64 0))))], []⟩) (fun s => 2 - s.val) ⟨0, by omega, fun h => by omega, fun h => by omega⟩ ?_ (fun s => ?_)
  · refine Weak.list ?_ ?_; (all_goals simp (disch := omega) only [AllF, AllL, q9, x9, j8, exists_eq_left', Option.some.injEq, go_sem, seval, hd, cb, ruleD]); (all_goals (repeat' (with_reducible apply And.intro))); (all_goals try (first | exact z8 rfl | (refine j9 ?_; omega) | (refine z8 ?_; simp; done)))
  obtain ⟨i, h1, h2, h3⟩ := s
  simp only []
  rcases (by omega : i = 0 ∨ i = 1 ∨ i = 2) with rfl | rfl | rfl
  · by_cases hp : p = 0
    · have q1 : (p != 0) = false := ine_ff hp
      (repeat (first | refine j0 ?_ | refine q7 rfl ?_ | refine z7 rfl ?_ | refine j6 ?_ | (refine j4 fun K hK => ?_) | (refine x5 (by kernel_rfl) (by kernel_rfl) fun K hK => ?_) | ((first | refine z6 ?_ | refine x6 ?_ | ((first | refine z2 (hK _ ?_) | refine q6 (hK _ _ (j5 (by kernel_rfl)) ?_)); clear hK K)); (first | show AWP _ _ _ _ _ | ((try simp only [q8]); first | show loopQ _ _ _ _ _ _ | show cutQ _ _ _ _ | show AWP _ _ _ _ _))) | ((first | refine x7 [] rfl ?_ | refine j7 [] rfl ?_); simp (maxSteps := 2000000) (disch := omega) only [go_sem, seval, hd, cb, ruleD, q1]; (repeat (first | refine ⟨by omega, ?_⟩ | refine ⟨True.intro, ?_⟩)))))
      refine ⟨⟨1, by omega, fun _ => hp, fun h => by omega⟩, by simp only []; omega, ?_⟩
      refine Weak.list ?_ ?_; (all_goals simp (disch := omega) only [AllF, AllL, q9, x9, j8, exists_eq_left', Option.some.injEq, go_sem, seval, hd, cb, ruleD, q1]); (all_goals (repeat' (with_reducible apply And.intro))); (all_goals try (first | exact z8 rfl | (refine j9 ?_; omega) | (refine z8 ?_; simp; done)))
    · have q1 : (p != 0) = true := ine_tt hp
      rw [if_neg hp]
      (repeat (first | refine j0 ?_ | refine q7 rfl ?_ | refine z7 rfl ?_ | refine j6 ?_ | (refine j4 fun K hK => ?_) | (refine x5 (by kernel_rfl) (by kernel_rfl) fun K hK => ?_) | ((first | refine z6 ?_ | refine x6 ?_ | ((first | refine z2 (hK _ ?_) | refine q6 (hK _ _ (j5 (by kernel_rfl)) ?_)); clear hK K)); (first | show AWP _ _ _ _ _ | ((try simp only [q8]); first | show loopQ _ _ _ _ _ _ | show cutQ _ _ _ _ | show AWP _ _ _ _ _))) | ((first | refine x7 [] rfl ?_ | refine j7 [] rfl ?_); simp (maxSteps := 2000000) (disch := omega) only [go_sem, seval, hd, cb, ruleD, q1]; (repeat (first | refine ⟨by omega, ?_⟩ | refine ⟨True.intro, ?_⟩)))))
      refine x8 ⟨_, ?_, rfl⟩; rw [Try.results86]; simp (disch := omega) only [ResVars, ResVar, ptrLoc, go_sem, seval, hd, cb, ruleD, q1]
  · rw [if_pos (h2 (by omega))]
    by_cases hp : q = 0
    · have q1 : (q != 0) = false := ine_ff hp
      (repeat (first | refine j0 ?_ | refine q7 rfl ?_ | refine z7 rfl ?_ | refine j6 ?_ | (refine j4 fun K hK => ?_) | (refine x5 (by kernel_rfl) (by kernel_rfl) fun K hK => ?_) | ((first | refine z6 ?_ | refine x6 ?_ | ((first | refine z2 (hK _ ?_) | refine q6 (hK _ _ (j5 (by kernel_rfl)) ?_)); clear hK K)); (first | show AWP _ _ _ _ _ | ((try simp only [q8]); first | show loopQ _ _ _ _ _ _ | show cutQ _ _ _ _ | show AWP _ _ _ _ _))) | ((first | refine x7 [] rfl ?_ | refine j7 [] rfl ?_); simp (maxSteps := 2000000) (disch := omega) only [go_sem, seval, hd, cb, ruleD, q1]; (repeat (first | refine ⟨by omega, ?_⟩ | refine ⟨True.intro, ?_⟩)))))
      refine ⟨⟨2, by omega, fun _ => h2 (by omega), fun h => hp⟩, by simp only []; omega, ?_⟩
      refine Weak.list ?_ ?_; (all_goals simp (disch := omega) only [AllF, AllL, q9, x9, j8, exists_eq_left', Option.some.injEq, go_sem, seval, hd, cb, ruleD, q1]); (all_goals (repeat' (with_reducible apply And.intro))); (all_goals try (first | exact z8 rfl | (refine j9 ?_; omega) | (refine z8 ?_; simp; done)))
    · have q1 : (q != 0) = true := ine_tt hp
      (repeat (first | refine j0 ?_ | refine q7 rfl ?_ | refine z7 rfl ?_ | refine j6 ?_ | (refine j4 fun K hK => ?_) | (refine x5 (by kernel_rfl) (by kernel_rfl) fun K hK => ?_) | ((first | refine z6 ?_ | refine x6 ?_ | ((first | refine z2 (hK _ ?_) | refine q6 (hK _ _ (j5 (by kernel_rfl)) ?_)); clear hK K)); (first | show AWP _ _ _ _ _ | ((try simp only [q8]); first | show loopQ _ _ _ _ _ _ | show cutQ _ _ _ _ | show AWP _ _ _ _ _))) | ((first | refine x7 [] rfl ?_ | refine j7 [] rfl ?_); simp (maxSteps := 2000000) (disch := omega) only [go_sem, seval, hd, cb, ruleD, q1]; (repeat (first | refine ⟨by omega, ?_⟩ | refine ⟨True.intro, ?_⟩)))))
      refine x8 ⟨_, ?_, rfl⟩; rw [Try.results86]; simp (disch := omega) only [ResVars, ResVar, ptrLoc, go_sem, seval, hd, cb, ruleD, q1]
  · rw [if_pos (h2 (by omega))]
    have hq := h3 (by omega)
    subst hq
    (repeat (first | refine j0 ?_ | refine q7 rfl ?_ | refine z7 rfl ?_ | refine j6 ?_ | (refine j4 fun K hK => ?_) | (refine x5 (by kernel_rfl) (by kernel_rfl) fun K hK => ?_) | ((first | refine z6 ?_ | refine x6 ?_ | ((first | refine z2 (hK _ ?_) | refine q6 (hK _ _ (j5 (by kernel_rfl)) ?_)); clear hK K)); (first | show AWP _ _ _ _ _ | ((try simp only [q8]); first | show loopQ _ _ _ _ _ _ | show cutQ _ _ _ _ | show AWP _ _ _ _ _))) | ((first | refine x7 [] rfl ?_ | refine j7 [] rfl ?_); simp (maxSteps := 2000000) (disch := omega) only [go_sem, seval, hd, cb, ruleD]; (repeat (first | refine ⟨by omega, ?_⟩ | refine ⟨True.intro, ?_⟩)))))
    refine x8 ⟨_, ?_, rfl⟩; rw [Try.results86]; simp (disch := omega) only [ResVars, ResVar, ptrLoc, go_sem, seval, hd, cb, ruleD]
def cmpO (l : List Rule) (a b : Nat) : Int := orI (cmpI (l.getD b r0).pr (l.getD a r0).pr) (cmpI (a : Int) (b : Int))
def ordO (l : List Rule) : PV := .d (.bx [.sl 12 l.length (rowR l)])
set_option maxHeartbeats 2000000 in
theorem compareO_c (l : List Rule) (a b : Nat) (ha : a < l.length) (hb : b < l.length) (hl : l.length ≤ 1099511627776) : ACalls Try.prog 63 [ordO l, .d (.v (.int .i64 (a : Int))), .d (.v (.int .i64 (b : Int)))] (· = [.d (.v (.int .i64 (cmpO l a b)))]) := by
  have r1 := rowR_at l a
  have r2 := rowR_at l b
  unfold cmpO ordO
  generalize l.getD a r0 = x at r1
  generalize l.getD b r0 = y at r2
  have k1 := Compare_c y.pr x.pr
  have k2 := Compare_c (a : Int) (b : Int)
  generalize cmpI y.pr x.pr = c1 at k1
  generalize cmpI (a : Int) (b : Int) = c2 at k2
  have k3 := OrI_c c1 c2
  refine j10 Try.func63 rfl (by decide +kernel) (by rw [Try.ntmps63]; simp) ?_; rw [Try.ntmps63]; simp only [frOf]
  (repeat (first | refine j0 ?_ | refine q7 rfl ?_ | refine z7 rfl ?_ | refine j6 ?_ | (refine j4 fun K hK => ?_) | (refine x5 (by kernel_rfl) (by kernel_rfl) fun K hK => ?_) | ((first | refine z6 ?_ | refine x6 ?_ | ((first | refine z2 (hK _ ?_) | refine q6 (hK _ _ (j5 (by kernel_rfl)) ?_)); clear hK K)); (first | show AWP _ _ _ _ _ | ((try simp only [q8]); first | show loopQ _ _ _ _ _ _ | show cutQ _ _ _ _ | show AWP _ _ _ _ _))) | ((first | refine q10 rfl rfl rfl ?_ | refine z10 rfl rfl rfl ?_); simp (maxSteps := 2000000) (disch := omega) only [go_sem, seval, hd, cb, ruleD, r1, r2]; (first | refine ⟨_, k1, ?_⟩ | refine ⟨_, k2, ?_⟩ | refine ⟨_, k3, ?_⟩)) | ((first | refine x7 [] rfl ?_ | refine j7 [] rfl ?_); simp (maxSteps := 2000000) (disch := omega) only [go_sem, seval, hd, cb, ruleD, r1, r2]; (repeat (first | refine ⟨by omega, ?_⟩ | refine ⟨True.intro, ?_⟩)))))
  refine x8 ⟨_, ?_, rfl⟩; rw [Try.results63]; simp (disch := omega) only [ResVars, ResVar, ptrLoc, go_sem, seval, hd, cb, ruleD, r1, r2]
theorem cmpO_lt {l : List Rule} {a b : Nat} : cmpO l a b < 0 ↔ ltR l a b := by
  unfold cmpO orI cmpI ltR
  generalize (l.getD b r0).pr = x
  generalize (l.getD a r0).pr = y
  by_cases h1 : x < y
  · rw [if_pos h1, if_neg (by omega)]; exact ⟨fun _ => .inl h1, fun _ => by omega⟩
  · rw [if_neg h1]
    by_cases h2 : y < x
    · rw [if_pos h2, if_neg (by omega)]; omega
    · rw [if_neg h2, if_pos rfl]
      by_cases h3 : a < b
      · rw [if_pos (by omega)]; omega
      · rw [if_neg (by omega)]
        split <;> omega
theorem cmpN_O (l : List Rule) (hl : l.length ≤ 1099511627776) : CmpN Try.prog 63 (ordO l) l.length (keyO l) (cmpO l) where
  call p q hp hq := compareO_c l p q hp hq hl
  lt p q hp hq := cmpO_lt.trans (keyO_lt hp hq).symm
  inj p q hp hq := keyO_inj hp hq
def lookI (l : List Rule) (k : Fin (l.length + 1)) : ASt :=
  ⟨[(10, .p (.d (.v (.int .i64 (k.val : Int))))), (9, .p (.d (.v (.int .i64 (l.length : Int))))), (3, .loc 7 0), (0, .p (.d (.sl 12 l.length (rowR l))))],
   [(7, .cells 125 [.p (.d (.sl 12 l.length (rowR l))), .ow 5 k.val 1 k.val]), (5, .own 3 1 k.val k.val (rowN id))]⟩
theorem catN_id (k : Nat) (i : Nat) (hi : i < k + 1) : catF k (rowN id) (fun i => [[Dat.v (.int .i64 (k : Int))]].getD i []) i = rowN id i := by
  unfold catF
  split
  · rfl
  · have : i = k := by omega
    subst this
    rw [Nat.sub_self]; rfl
set_option maxRecDepth 100000 in
set_option maxHeartbeats 4000000 in
theorem Look_c (l : List Rule) (hl : l.length ≤ 1099511627776) : ACalls Try.prog 42 [.d (.sl 12 l.length (rowR l))] (· = [.d (.sl 1 l.length (rowI (orderR l)))]) := by
  have hc := cmpN_O l hl
  unfold ordO at hc
  have d0 : Dom l.length l.length id := ⟨fun k hk => hk, by unfold seg; simp [List.nodup_range']⟩
  refine j10 Try.func42 rfl (by decide +kernel) (by rw [Try.ntmps42]; simp) ?_; rw [Try.ntmps42]; simp only [frOf]
  (repeat (first | refine j0 ?_ | refine q7 rfl ?_ | refine z7 rfl ?_ | refine j6 ?_ | (refine j4 fun K hK => ?_) | (refine x5 (by kernel_rfl) (by kernel_rfl) fun K hK => ?_) | ((first | refine z6 ?_ | refine x6 ?_ | ((first | refine z2 (hK _ ?_) | refine q6 (hK _ _ (j5 (by kernel_rfl)) ?_)); clear hK K)); (first | show AWP _ _ _ _ _ | ((try simp only [q8]); first | show loopQ _ _ _ _ _ _ | show cutQ _ _ _ _ | show AWP _ _ _ _ _))) | ((first | refine x7 [7] rfl ?_ | refine j7 [7] rfl ?_); simp (maxSteps := 2000000) (disch := omega) only [go_sem, seval, hd, cb, ruleD]; (repeat (first | refine ⟨by omega, ?_⟩ | refine ⟨True.intro, ?_⟩)))))
  refine awp_ownCell 7 5 1 1 3 (rowN id) rfl rfl (by omega) (by kernel_rfl) rfl ?_
  refine awp_loop (lookI l) (fun s => l.length - s.val) ⟨0, by omega⟩ ?_ (fun s => ?_)
  · unfold lookI
    refine Weak.list ?_ ?_; (all_goals simp (disch := omega) only [AllF, AllL, q9, x9, j8, exists_eq_left', Option.some.injEq, go_sem, seval, hd, cb, ruleD]); (all_goals (repeat' (with_reducible apply And.intro))); (all_goals try (first | exact z8 rfl | (refine j9 ?_; omega) | (refine z8 ?_; simp; done)))
    exact of_eq_true (j8 _)
  obtain ⟨k, hk⟩ := s
  unfold lookI
  by_cases h : k < l.length
  · (repeat (first | refine j0 ?_ | refine q7 rfl ?_ | refine z7 rfl ?_ | refine j6 ?_ | (refine j4 fun K hK => ?_) | (refine x5 (by kernel_rfl) (by kernel_rfl) fun K hK => ?_) | ((first | refine z6 ?_ | refine x6 ?_ | ((first | refine z2 (hK _ ?_) | refine q6 (hK _ _ (j5 (by kernel_rfl)) ?_)); clear hK K)); (first | show AWP _ _ _ _ _ | ((try simp only [q8]); first | show loopQ _ _ _ _ _ _ | show cutQ _ _ _ _ | show AWP _ _ _ _ _))) | ((first | refine x7 [7] rfl ?_ | refine j7 [7] rfl ?_); simp (maxSteps := 2000000) (disch := omega) only [go_sem, seval, hd, cb, ruleD]; (repeat (first | refine ⟨by omega, ?_⟩ | refine ⟨True.intro, ?_⟩)))))
    refine ⟨⟨k + 1, by omega⟩, by simp only []; omega, ?_⟩
    refine Weak.list ?_ ?_; (all_goals simp (disch := omega) only [AllF, AllL, q9, x9, j8, exists_eq_left', Option.some.injEq, go_sem, seval, hd, cb, ruleD]); (all_goals (repeat' (with_reducible apply And.intro))); (all_goals try (first | exact z8 rfl | (refine j9 ?_; omega) | (refine z8 ?_; simp; done)))
    exact lle_own rfl rfl (fun i hi => catN_id k i hi)
  · have : k = l.length := by omega
    subst this
    (repeat (first | refine j0 ?_ | refine q7 rfl ?_ | refine z7 rfl ?_ | refine j6 ?_ | (refine j4 fun K hK => ?_) | (refine x5 (by kernel_rfl) (by kernel_rfl) fun K hK => ?_) | ((first | refine z6 ?_ | refine x6 ?_ | ((first | refine z2 (hK _ ?_) | refine q6 (hK _ _ (j5 (by kernel_rfl)) ?_)); clear hK K)); (first | show AWP _ _ _ _ _ | ((try simp only [q8]); first | show loopQ _ _ _ _ _ _ | show cutQ _ _ _ _ | show AWP _ _ _ _ _))) | ((first | refine x7 [7] rfl ?_ | refine j7 [7] rfl ?_); simp (maxSteps := 2000000) (disch := omega) only [go_sem, seval, hd, cb, ruleD]; (repeat (first | refine ⟨by omega, ?_⟩ | refine ⟨True.intro, ?_⟩)))))
    refine walkS_weak (Weak.frz _ 29 7 (.func 63) 125 _ [.sl 12 l.length (rowR l)] rfl rfl (fun j d hd => ?_)) ?_
    · match j, hd with
      | 0, hd => cases hd; rfl
      | j + 1, hd => simp at hd
    (refine walkS_ex (step_mcallX [(1000, 5)] rfl rfl rfl rfl rfl rfl (SortN_c hc id l.length l.length hl d0) (fun _ => rfl) (j11 (by repeat (first | exact trivial | refine ⟨rfl, ?_⟩)) (by kernel_rfl)) (fun _ => (j11 (by repeat (first | exact trivial | refine ⟨rfl, ?_⟩)) (by kernel_rfl)))) ?_); rintro ⟨y,hy,hy2⟩; simp (maxSteps := 2000000) (disch := omega) only [go_sem, seval, hd, cb, ruleD]
    (repeat (first | refine j0 ?_ | refine q7 rfl ?_ | refine z7 rfl ?_ | refine j6 ?_ | (refine j4 fun K hK => ?_) | (refine x5 (by kernel_rfl) (by kernel_rfl) fun K hK => ?_) | ((first | refine z6 ?_ | refine x6 ?_ | ((first | refine z2 (hK _ ?_) | refine q6 (hK _ _ (j5 (by kernel_rfl)) ?_)); clear hK K)); (first | show AWP _ _ _ _ _ | ((try simp only [q8]); first | show loopQ _ _ _ _ _ _ | show cutQ _ _ _ _ | show AWP _ _ _ _ _))) | ((first | refine x7 [7] rfl ?_ | refine j7 [7] rfl ?_); simp (maxSteps := 2000000) (disch := omega) only [go_sem, seval, hd, cb, ruleD]; (repeat (first | refine ⟨by omega, ?_⟩ | refine ⟨True.intro, ?_⟩)))))
    refine awp_freeze 2 5 l.length 1 l.length 3 _ rfl rfl ?_
    refine awp_slot 2 _ (.p (.d (.sl 1 l.length (rowI (orderR l))))) rfl (le_sl rfl fun i hi => ?_) ?_
    · unfold rowN rowI
      rw [sorted_order hy hy2 i hi]
    refine x8 ⟨_, ?_, rfl⟩; rw [Try.results42]; simp (disch := omega) only [ResVars, ResVar, ptrLoc, go_sem, seval, hd, cb, ruleD]
end Go.Proofs.Ytbiildleaelodaa
set_option linter.unusedSimpArgs false
set_option linter.unusedVariables false
namespace Go.Proofs.Ytbiildleaelodaa
open Go.Proofs.Ytbiildleaelodaa.AL
end Go.Proofs.Ytbiildleaelodaa
set_option linter.unusedSimpArgs false
set_option linter.unusedVariables false
namespace Go.Proofs.Ytbiildleaelodaa
open Go.Proofs.Ytbiildleaelodaa.AL
end Go.Proofs.Ytbiildleaelodaa
set_option linter.unusedSimpArgs false
set_option linter.unusedVariables false
namespace Go.Proofs.Ytbiildleaelodaa
open Go.Proofs.Ytbiildleaelodaa.AL
def idxF {α : Type} (p : α → Bool) : List α → Nat → Int
  | [], _ => -1
  | x :: r, k => if p x then (k : Int) else idxF p r (k + 1)
theorem idxF_any {α : Type} (p : α → Bool) : ∀ (l : List α) (k : Nat), decide (idxF p l k ≥ 0) = l.any p
  | [], k => rfl
  | x :: r, k => by
    unfold idxF
    cases h : p x
    · simp only [Bool.false_eq_true, if_false, List.any_cons, h, Bool.false_or]; exact idxF_any p r (k + 1)
    · simp only [if_true, List.any_cons, h, Bool.true_or]; exact decide_eq_true (by omega)
end Go.Proofs.Ytbiildleaelodaa
set_option linter.unusedSimpArgs false
set_option linter.unusedVariables false
namespace Go.Proofs.Ytbiildleaelodaa
open Go.Proofs.Ytbiildleaelodaa.AL
end Go.Proofs.Ytbiildleaelodaa
set_option linter.unusedSimpArgs false
set_option linter.unusedVariables false
namespace Go.Proofs.Ytbiildleaelodaa
open Go.Proofs.Ytbiildleaelodaa.AL
end Go.Proofs.Ytbiildleaelodaa
set_option linter.unusedSimpArgs false
set_option linter.unusedVariables false
namespace Go.Proofs.Ytbiildleaelodaa
open Go.Proofs.Ytbiildleaelodaa.AL
end Go.Proofs.Ytbiildleaelodaa
set_option linter.unusedSimpArgs false
set_option linter.unusedVariables false
namespace Go.Proofs.Ytbiildleaelodaa
open Go.Proofs.Ytbiildleaelodaa.AL
def findO (l : List Rule) (h : BitVec 128) : List Nat → Option Nat
  | [] => none
  | n :: r => if hasC (l.getD n r0).mt h then some n else findO l h r
def findR (l : List Rule) (h : BitVec 128) : Option Nat := findO l h (orderR l)
def findI (l : List Rule) (h : BitVec 128) (R : Option Nat) (s : {i : Nat // i ≤ l.length ∧ findO l h ((orderR l).drop i) = R}) : ASt :=
  ⟨[(11, .p (.d (.v (.int .i64 (s.val : Int))))), (10, .p (.d (.v (.int .i64 (l.length : Int))))), (9, .p (.d (.sl 1 l.length (rowI (orderR l))))), (3, .p (.d (.bx (hd h)))), (0, .p (.d (.sl 12 l.length (rowR l))))], []⟩
set_option maxHeartbeats 2000000 in
theorem Find_c (l : List Rule) (h : BitVec 128) (hl : l.length ≤ 1099511627776) : ACalls Try.prog 15 [.d (.sl 12 l.length (rowR l)), .agg (hd h)] (· = [.d (.v (.int .i64 (((findR l h).getD 0 : Nat) : Int))), .d (.v (.bool (findR l h).isSome))]) := by
  unfold findR
  obtain ⟨R, hR⟩ : ∃ R, findO l h (orderR l) = R := ⟨_, rfl⟩
  rw [hR]
  refine j10 Try.func15 rfl (by decide +kernel) (by rw [Try.ntmps15]; simp) ?_; rw [Try.ntmps15]; simp only [frOf]
  (repeat (first | refine j0 ?_ | refine q7 rfl ?_ | refine z7 rfl ?_ | refine j6 ?_ | (refine j4 fun K hK => ?_) | (refine x5 (by kernel_rfl) (by kernel_rfl) fun K hK => ?_) | ((first | refine z6 ?_ | refine x6 ?_ | ((first | refine z2 (hK _ ?_) | refine q6 (hK _ _ (j5 (by kernel_rfl)) ?_)); clear hK K)); (first | show AWP _ _ _ _ _ | ((try simp only [q8]); first | show loopQ _ _ _ _ _ _ | show cutQ _ _ _ _ | show AWP _ _ _ _ _))) | ((first | refine q10 rfl rfl rfl ?_ | refine z10 rfl rfl rfl ?_); simp (maxSteps := 2000000) (disch := omega) only [go_sem, seval, hd, cb, ruleD]; (first | refine ⟨_, Look_c l hl, ?_⟩)) | ((first | refine x7 [] rfl ?_ | refine j7 [] rfl ?_); simp (maxSteps := 2000000) (disch := omega) only [go_sem, seval, hd, cb, ruleD]; (repeat (first | refine ⟨by omega, ?_⟩ | refine ⟨True.intro, ?_⟩)))))
  refine awp_loop (findI l h R) (fun s => l.length - s.val) ⟨0, by omega, by rw [List.drop_zero]; exact hR⟩ ?_ (fun s => ?_)
  · unfold findI
    refine Weak.list ?_ ?_; (all_goals simp (disch := omega) only [AllF, AllL, q9, x9, j8, exists_eq_left', Option.some.injEq, go_sem, seval, hd, cb, ruleD]); (all_goals (repeat' (with_reducible apply And.intro))); (all_goals try (first | exact z8 rfl | (refine j9 ?_; omega) | (refine z8 ?_; simp; done)))
  obtain ⟨i, hi, he⟩ := s
  unfold findI
  have hol := orderR_len l
  by_cases hn : i < l.length
  · rw [drop_getD (orderR l) i 0 (by omega)] at he
    have r0' := rowI_at (orderR l) i
    have hk := orderR_lt (getD_in (show i < (orderR l).length by omega) 0)
    generalize (orderR l).getD i 0 = k at he r0' hk
    unfold findO at he
    have r1 := rowR_at l k
    have hc := Has_c (l.getD k r0).mt h
    generalize l.getD k r0 = x at he r1 hc
    unfold cb at hc
    cases hb : hasC x.mt h
    all_goals
      rw [hb] at he hc
      simp only [Bool.false_eq_true, if_false, if_true] at he
      (repeat (first | refine j0 ?_ | refine q7 rfl ?_ | refine z7 rfl ?_ | refine j6 ?_ | (refine j4 fun K hK => ?_) | (refine x5 (by kernel_rfl) (by kernel_rfl) fun K hK => ?_) | ((first | refine z6 ?_ | refine x6 ?_ | ((first | refine z2 (hK _ ?_) | refine q6 (hK _ _ (j5 (by kernel_rfl)) ?_)); clear hK K)); (first | show AWP _ _ _ _ _ | ((try simp only [q8]); first | show loopQ _ _ _ _ _ _ | show cutQ _ _ _ _ | show AWP _ _ _ _ _))) | ((first | refine q10 rfl rfl rfl ?_ | refine z10 rfl rfl rfl ?_); simp (maxSteps := 2000000) (disch := omega) only [go_sem, seval, hd, cb, ruleD, r0', r1]; (first | refine ⟨_, hc, ?_⟩)) | ((first | refine x7 [] rfl ?_ | refine j7 [] rfl ?_); simp (maxSteps := 2000000) (disch := omega) only [go_sem, seval, hd, cb, ruleD, r0', r1]; (repeat (first | refine ⟨by omega, ?_⟩ | refine ⟨True.intro, ?_⟩)))))
    · refine ⟨⟨i + 1, by omega, he⟩, by simp only []; omega, ?_⟩
      refine Weak.list ?_ ?_; (all_goals simp (disch := omega) only [AllF, AllL, q9, x9, j8, exists_eq_left', Option.some.injEq, go_sem, seval, hd, cb, ruleD, r0', r1]); (all_goals (repeat' (with_reducible apply And.intro))); (all_goals try (first | exact z8 rfl | (refine j9 ?_; omega) | (refine z8 ?_; simp; done)))
    · refine x8 ⟨_, ?_, rfl⟩; rw [Try.results15]; simp (disch := omega) only [ResVars, ResVar, ptrLoc, go_sem, seval, hd, cb, ruleD, r0', r1]
      rw [← he]
      exact ⟨rfl, rfl⟩
  · have : i = l.length := by omega
    subst this
    rw [← hol, List.drop_length] at he
    unfold findO at he
    (repeat (first | refine j0 ?_ | refine q7 rfl ?_ | refine z7 rfl ?_ | refine j6 ?_ | (refine j4 fun K hK => ?_) | (refine x5 (by kernel_rfl) (by kernel_rfl) fun K hK => ?_) | ((first | refine z6 ?_ | refine x6 ?_ | ((first | refine z2 (hK _ ?_) | refine q6 (hK _ _ (j5 (by kernel_rfl)) ?_)); clear hK K)); (first | show AWP _ _ _ _ _ | ((try simp only [q8]); first | show loopQ _ _ _ _ _ _ | show cutQ _ _ _ _ | show AWP _ _ _ _ _))) | ((first | refine x7 [] rfl ?_ | refine j7 [] rfl ?_); simp (maxSteps := 2000000) (disch := omega) only [go_sem, seval, hd, cb, ruleD]; (repeat (first | refine ⟨by omega, ?_⟩ | refine ⟨True.intro, ?_⟩)))))
    refine x8 ⟨_, ?_, rfl⟩; rw [Try.results15]; simp (disch := omega) only [ResVars, ResVar, ptrLoc, go_sem, seval, hd, cb, ruleD]
    rw [← he]
    exact ⟨rfl, rfl⟩
end Go.Proofs.Ytbiildleaelodaa
set_option linter.unusedSimpArgs false
set_option linter.unusedVariables false
namespace Go.Proofs.Ytbiildleaelodaa
open Go.Proofs.Ytbiildleaelodaa.AL Go.RowKit
end Go.Proofs.Ytbiildleaelodaa
set_option linter.unusedSimpArgs false
set_option linter.unusedVariables false
namespace Go.Proofs.Ytbiildleaelodaa
open Go.Proofs.Ytbiildleaelodaa.AL
end Go.Proofs.Ytbiildleaelodaa
set_option linter.unusedSimpArgs false
set_option linter.unusedVariables false
namespace Go.Proofs.Ytbiildleaelodaa
open Go.Proofs.Ytbiildleaelodaa.AL
def other (r b : Cube) (n : Nat) : Cube := ⟨(r.v ||| (b.v &&& (ones 1 <<< n))) ^^^ (ones 1 <<< n), r.c ||| (ones 1 <<< n)⟩
end Go.Proofs.Ytbiildleaelodaa
set_option linter.unusedSimpArgs false
set_option linter.unusedVariables false
namespace Go.Proofs.Ytbiildleaelodaa
open Go.Proofs.Ytbiildleaelodaa.AL
end Go.Proofs.Ytbiildleaelodaa
set_option linter.unusedSimpArgs false
set_option linter.unusedVariables false
namespace Go.Proofs.Ytbiildleaelodaa
open Go.Proofs.Ytbiildleaelodaa.AL
end Go.Proofs.Ytbiildleaelodaa
set_option linter.unusedSimpArgs false
set_option linter.unusedVariables false
namespace Go.Proofs.Ytbiildleaelodaa
open Go.Proofs.Ytbiildleaelodaa.AL
end Go.Proofs.Ytbiildleaelodaa
set_option linter.unusedSimpArgs false
set_option linter.unusedVariables false
namespace Go.Proofs.Ytbiildleaelodaa
open Go.Proofs.Ytbiildleaelodaa.AL
end Go.Proofs.Ytbiildleaelodaa
set_option linter.unusedSimpArgs false
set_option linter.unusedVariables false
namespace Go.Proofs.Ytbiildleaelodaa
open Go.Proofs.Ytbiildleaelodaa.AL
end Go.Proofs.Ytbiildleaelodaa
set_option linter.unusedSimpArgs false
set_option linter.unusedVariables false
namespace Go.Proofs.Ytbiildleaelodaa
open Go.Proofs.Ytbiildleaelodaa.AL
end Go.Proofs.Ytbiildleaelodaa
set_option linter.unusedSimpArgs false
set_option linter.unusedVariables false
namespace Go.Proofs.Ytbiildleaelodaa
open Go.Proofs.Ytbiildleaelodaa.AL
end Go.Proofs.Ytbiildleaelodaa
set_option linter.unusedSimpArgs false
set_option linter.unusedVariables false
namespace Go.Proofs.Ytbiildleaelodaa
open Go.Proofs.Ytbiildleaelodaa.AL
end Go.Proofs.Ytbiildleaelodaa
set_option linter.unusedSimpArgs false
set_option linter.unusedVariables false
namespace Go.Proofs.Ytbiildleaelodaa
open Go.Proofs.Ytbiildleaelodaa.AL
end Go.Proofs.Ytbiildleaelodaa
set_option linter.unusedSimpArgs false
set_option linter.unusedVariables false
namespace Go.Proofs.Ytbiildleaelodaa
open Go.Proofs.Ytbiildleaelodaa.AL
end Go.Proofs.Ytbiildleaelodaa
set_option linter.unusedSimpArgs false
set_option linter.unusedVariables false
namespace Go.Proofs.Ytbiildleaelodaa
open Go.Proofs.Ytbiildleaelodaa.AL
def bestH (l : List Rule) (h : BitVec 128) (i : Nat) : Option Nat := bestTo (fun i => !hasC (l.getD i r0).mt h) (fun i => l.getD i r0) i
theorem bestH_lt {l : List Rule} {h : BitVec 128} {i b : Nat} (e : bestH l h i = some b) : b < i := by
  have sp := bestTo_spec (fun i => !hasC (l.getD i r0).mt h) (fun i => l.getD i r0) i
  unfold bestH at e
  rw [e] at sp
  exact sp.1
theorem find_best (l : List Rule) (h : BitVec 128) : findR l h = bestH l h l.length := by
  have sp := bestTo_spec (fun i => !hasC (l.getD i r0).mt h) (fun i => l.getD i r0) l.length
  unfold findR bestH
  have go : ∀ o : List Nat, o.Pairwise (ltR l) → (∀ q, q < l.length → hasC (l.getD q r0).mt h = true → q ∈ o) → (∀ q ∈ o, q < l.length) → findO l h o = bestTo (fun i => !hasC (l.getD i r0).mt h) (fun i => l.getD i r0) l.length := by
    intro o
    induction o with
    | nil =>
      intro _ h2 _
      unfold findO
      cases hb : bestTo (fun i => !hasC (l.getD i r0).mt h) (fun i => l.getD i r0) l.length with
      | none => rfl
      | some p =>
        rw [hb] at sp
        have := h2 p sp.1 (by simpa using sp.2.1)
        cases this
    | cons n r ih =>
      intro h1 h2 h3
      obtain ⟨p1, p2⟩ := List.pairwise_cons.1 h1
      unfold findO
      cases hn : hasC (l.getD n r0).mt h
      · simp only [Bool.false_eq_true, if_false]
        refine ih p2 (fun q hq hq2 => ?_) (fun q hq => h3 q (by simp [hq]))
        rcases List.mem_cons.1 (h2 q hq hq2) with e | e
        · subst e; rw [hn] at hq2; cases hq2
        · exact e
      · simp only [if_true]
        cases hb : bestTo (fun i => !hasC (l.getD i r0).mt h) (fun i => l.getD i r0) l.length with
        | none =>
          rw [hb] at sp
          have := sp n (h3 n (by simp))
          rw [hn] at this; cases this
        | some p =>
          rw [hb] at sp
          obtain ⟨s1, s2, s3⟩ := sp
          have hp : hasC (l.getD p r0).mt h = true := by simpa using s2
          rcases List.mem_cons.1 (h2 p s1 hp) with e | e
          · rw [e]
          · have l1 := p1 p e
            have := s3 n (h3 n (by simp)) (by rw [hn]; rfl)
            unfold ltR at l1
            omega
  exact go _ (orderR_srt l) (fun q hq _ => orderR_mem.2 hq) (fun q hq => orderR_lt hq)
def rsI (l : List Rule) (n : Nat) (i : {i : Nat // i ≤ (orderR l).idxOf n}) : ASt :=
  ⟨[(7, .p (.d (.v (.int .i64 (i.val : Int))))), (6, .p (.d (.sl 1 l.length (rowI (orderR l))))), (1, .p (.d (.v (.int .i64 (n : Int))))), (0, .p (.d (.sl 12 l.length (rowR l))))], []⟩
end Go.Proofs.Ytbiildleaelodaa
set_option linter.unusedSimpArgs false
set_option linter.unusedVariables false
namespace Go.Proofs.Ytbiildleaelodaa
open Go.Proofs.Ytbiildleaelodaa.AL
def oneR (ts : List (List Rule)) (n : Int) (h : BitVec 128) : Option Nat := if n < 0 ∨ (ts.length : Int) ≤ n then none else findR (ts.getD n.toNat []) h
def oneH (ts : List (List Rule)) (n : Int) (h : BitVec 128) : BitVec 128 := match oneR ts n h with
  | some r => setH h ((ts.getD n.toNat []).getD r r0).st
  | none => 0
theorem findR_lt {l : List Rule} {h : BitVec 128} {a : Nat} (e : findR l h = some a) : a < l.length := by
  rw [find_best] at e
  exact bestH_lt e
set_option maxRecDepth 100000 in
set_option maxHeartbeats 4000000 in
theorem One_c (ts : List (List Rule)) (n : Int) (h : BitVec 128) (ht : smallR ts) : ACalls Try.prog 34 [.d (.sl 1 ts.length (rowRR ts)), .d (.v (.int .i64 n)), .agg (hd h)]
    (· = [.d (.v (.int .i64 (((oneR ts n h).getD 0 : Nat) : Int))), .agg (hd (oneH ts n h)), .d (.v (.bool (oneR ts n h).isSome))]) := by
  have hs := ht.1
  have z1 : hd 0#128 = [.v (.int .u64 0), .v (.int .u64 0)] := by unfold hd; rw [hi0, lo0]
  unfold oneH
  by_cases h1 : n < 0 ∨ (ts.length : Int) ≤ n
  · have e : oneR ts n h = none := by unfold oneR; rw [if_pos h1]
    rw [e]
    simp only [Option.getD_none, Option.isSome_none]
    rw [show hd (0 : BitVec 128) = hd 0#128 from rfl, z1]
    by_cases h2 : n < 0
    · refine j10 Try.func34 rfl (by decide +kernel) (by rw [Try.ntmps34]; simp) ?_; rw [Try.ntmps34]; simp only [frOf]
      (repeat (first | refine j0 ?_ | refine q7 rfl ?_ | refine z7 rfl ?_ | refine j6 ?_ | (refine j4 fun K hK => ?_) | (refine x5 (by kernel_rfl) (by kernel_rfl) fun K hK => ?_) | ((first | refine z6 ?_ | refine x6 ?_ | ((first | refine z2 (hK _ ?_) | refine q6 (hK _ _ (j5 (by kernel_rfl)) ?_)); clear hK K)); (first | show AWP _ _ _ _ _ | ((try simp only [q8]); first | show loopQ _ _ _ _ _ _ | show cutQ _ _ _ _ | show AWP _ _ _ _ _))) | ((first | refine x7 [] rfl ?_ | refine j7 [] rfl ?_); simp (maxSteps := 2000000) (disch := omega) only [go_sem, seval, hd, cb, ruleD, portD]; (repeat (first | refine ⟨by omega, ?_⟩ | refine ⟨True.intro, ?_⟩)))))
      refine x8 ⟨_, ?_, rfl⟩; rw [Try.results34]; simp (disch := omega) only [ResVars, ResVar, ptrLoc, go_sem, seval, hd, cb, ruleD, portD]
      first | done | rfl | exact ⟨rfl, rfl⟩
    · refine j10 Try.func34 rfl (by decide +kernel) (by rw [Try.ntmps34]; simp) ?_; rw [Try.ntmps34]; simp only [frOf]
      (repeat (first | refine j0 ?_ | refine q7 rfl ?_ | refine z7 rfl ?_ | refine j6 ?_ | (refine j4 fun K hK => ?_) | (refine x5 (by kernel_rfl) (by kernel_rfl) fun K hK => ?_) | ((first | refine z6 ?_ | refine x6 ?_ | ((first | refine z2 (hK _ ?_) | refine q6 (hK _ _ (j5 (by kernel_rfl)) ?_)); clear hK K)); (first | show AWP _ _ _ _ _ | ((try simp only [q8]); first | show loopQ _ _ _ _ _ _ | show cutQ _ _ _ _ | show AWP _ _ _ _ _))) | ((first | refine x7 [] rfl ?_ | refine j7 [] rfl ?_); simp (maxSteps := 2000000) (disch := omega) only [go_sem, seval, hd, cb, ruleD, portD]; (repeat (first | refine ⟨by omega, ?_⟩ | refine ⟨True.intro, ?_⟩)))))
      refine x8 ⟨_, ?_, rfl⟩; rw [Try.results34]; simp (disch := omega) only [ResVars, ResVar, ptrLoc, go_sem, seval, hd, cb, ruleD, portD]
      first | done | rfl | exact ⟨rfl, rfl⟩
  · obtain ⟨m, rfl⟩ : ∃ m : Nat, n = (m : Int) := ⟨n.toNat, by omega⟩
    have e : oneR ts (m : Int) h = findR (ts.getD m []) h := by unfold oneR; rw [if_neg h1]; rfl
    rw [e, show ((m : Int)).toNat = m from rfl]
    have d1 : decide ((m : Int) < 0) = false := decide_eq_false (by omega)
    have d2 : decide ((m : Int) ≥ (ts.length : Int)) = false := decide_eq_false (by omega)
    have hm : m < ts.length := by omega
    have r1 := rowRR_at ts m
    have hb := smallR_at ht m
    generalize ts.getD m [] = l at r1 hb
    have kf := Find_c l h (by omega)
    have fl := @findR_lt l h
    cases hf : findR l h with
    | none =>
      rw [hf] at kf
      simp only [Option.getD_none, Option.isSome_none] at kf ⊢
      rw [show hd (0 : BitVec 128) = hd 0#128 from rfl, z1]
      refine j10 Try.func34 rfl (by decide +kernel) (by rw [Try.ntmps34]; simp) ?_; rw [Try.ntmps34]; simp only [frOf]
      (repeat (first | refine j0 ?_ | refine q7 rfl ?_ | refine z7 rfl ?_ | refine j6 ?_ | (refine j4 fun K hK => ?_) | (refine x5 (by kernel_rfl) (by kernel_rfl) fun K hK => ?_) | ((first | refine z6 ?_ | refine x6 ?_ | ((first | refine z2 (hK _ ?_) | refine q6 (hK _ _ (j5 (by kernel_rfl)) ?_)); clear hK K)); (first | show AWP _ _ _ _ _ | ((try simp only [q8]); first | show loopQ _ _ _ _ _ _ | show cutQ _ _ _ _ | show AWP _ _ _ _ _))) | ((first | refine q10 rfl rfl rfl ?_ | refine z10 rfl rfl rfl ?_); simp (maxSteps := 2000000) (disch := omega) only [go_sem, seval, hd, cb, ruleD, portD, d1, d2, r1]; (first | refine ⟨_, kf, ?_⟩)) | ((first | refine x7 [] rfl ?_ | refine j7 [] rfl ?_); simp (maxSteps := 2000000) (disch := omega) only [go_sem, seval, hd, cb, ruleD, portD, d1, d2, r1]; (repeat (first | refine ⟨by omega, ?_⟩ | refine ⟨True.intro, ?_⟩)))))
      refine x8 ⟨_, ?_, rfl⟩; rw [Try.results34]; simp (disch := omega) only [ResVars, ResVar, ptrLoc, go_sem, seval, hd, cb, ruleD, portD, d1, d2, r1]
      first | done | rfl | exact ⟨rfl, rfl⟩
    | some a =>
      have ha := fl hf
      rw [hf] at kf
      simp only [Option.getD_some, Option.isSome_some] at kf ⊢
      have r2 := rowR_at l a
      generalize l.getD a r0 = x at r2
      have ks := SetRule_c x h
      unfold ruleD at ks
      generalize setH h x.st = h' at ks
      refine j10 Try.func34 rfl (by decide +kernel) (by rw [Try.ntmps34]; simp) ?_; rw [Try.ntmps34]; simp only [frOf]
      (repeat (first | refine j0 ?_ | refine q7 rfl ?_ | refine z7 rfl ?_ | refine j6 ?_ | (refine j4 fun K hK => ?_) | (refine x5 (by kernel_rfl) (by kernel_rfl) fun K hK => ?_) | ((first | refine z6 ?_ | refine x6 ?_ | ((first | refine z2 (hK _ ?_) | refine q6 (hK _ _ (j5 (by kernel_rfl)) ?_)); clear hK K)); (first | show AWP _ _ _ _ _ | ((try simp only [q8]); first | show loopQ _ _ _ _ _ _ | show cutQ _ _ _ _ | show AWP _ _ _ _ _))) | ((first | refine q10 rfl rfl rfl ?_ | refine z10 rfl rfl rfl ?_); simp (maxSteps := 2000000) (disch := omega) only [go_sem, seval, hd, cb, ruleD, portD, d1, d2, r1, r2]; (first | refine ⟨_, kf, ?_⟩ | refine ⟨_, ks, ?_⟩)) | ((first | refine x7 [] rfl ?_ | refine j7 [] rfl ?_); simp (maxSteps := 2000000) (disch := omega) only [go_sem, seval, hd, cb, ruleD, portD, d1, d2, r1, r2]; (repeat (first | refine ⟨by omega, ?_⟩ | refine ⟨True.intro, ?_⟩)))))
      refine x8 ⟨_, ?_, rfl⟩; rw [Try.results34]; simp (disch := omega) only [ResVars, ResVar, ptrLoc, go_sem, seval, hd, cb, ruleD, portD, d1, d2, r1, r2]
      first | done | rfl | exact ⟨rfl, rfl⟩
end Go.Proofs.Ytbiildleaelodaa
set_option linter.unusedSimpArgs false
set_option linter.unusedVariables false
namespace Go.Proofs.Ytbiildleaelodaa
open Go.Proofs.Ytbiildleaelodaa.AL
def errF (f : Nat → Int) : Nat → Nat → Int
  | 0, _ => 0
  | m + 1, i => if f i = 0 then errF f m (i + 1) else f i
theorem errF_step {f : Nat → Int} {n i : Nat} (h : i < n) : errF f (n - i) i = if f i = 0 then errF f (n - (i + 1)) (i + 1) else f i := by
  rw [show n - i = (n - (i + 1)) + 1 by omega]; rfl
theorem errF_done {f : Nat → Int} {n i : Nat} (h : n ≤ i) : errF f (n - i) i = 0 := by
  rw [show n - i = 0 by omega]; rfl
def polE (c : Config) : Int := if sizesC c = false then 4 else if policyC c = false then 2 else 0
def tabE (c : Config) (i : Nat) : Int := soundTab (c.tb.getD i []) (c.tp.getD i [])
def soundC (c : Config) : Int := if soundT c.tp ≠ 0 then soundT c.tp else if polE c ≠ 0 then polE c else if c.tb.length ≠ c.tp.length then 4 else errF (tabE c) c.tb.length 0
def soundCI (c : Config) (R : Int) (s : {i : Nat // i ≤ c.tb.length ∧ errF (tabE c) (c.tb.length - i) i = R}) : ASt :=
  ⟨[(33, .p (.d (.v (.int .i64 (s.val : Int))))), (32, .p (.d (.v (.int .i64 (c.tb.length : Int))))), (31, .p (.d (.sl 1 c.tb.length (rowTT c.tb)))), (1, .p (.d (.bx (configD c))))], []⟩
set_option maxRecDepth 100000 in
set_option maxHeartbeats 4000000 in
theorem SoundC_c (c : Config) (hc : c.small) : ACalls Try.prog 71 [.agg (configD c)] (· = [.d (.v (.int .i64 (soundC c)))]) := by
  have s1 := SoundT_c c.tp hc.tp
  have s2 := sizes_c c hc
  have s3 := policy_c c hc
  have htp := hc.tp
  have hat := hc.at
  have hb := hc.tb
  have hb2 := hc.tp.1
  unfold soundC polE
  simp only [topoD] at s1
  simp only [configD] at s2 s3
  generalize soundT c.tp = e1 at s1
  generalize sizesC c = b2 at s2
  generalize policyC c = b3 at s3
  by_cases h1 : e1 = 0
  · subst h1
    rw [if_neg (by decide)]
    cases b2
    · simp only [if_true]
      rw [if_pos (by decide)]
      refine j10 Try.func71 rfl (by decide +kernel) (by rw [Try.ntmps71]; simp) ?_; rw [Try.ntmps71]; simp only [frOf]
      (repeat (first | refine j0 ?_ | refine q7 rfl ?_ | refine z7 rfl ?_ | refine j6 ?_ | (refine j4 fun K hK => ?_) | (refine x5 (by kernel_rfl) (by kernel_rfl) fun K hK => ?_) | ((first | refine z6 ?_ | refine x6 ?_ | ((first | refine z2 (hK _ ?_) | refine q6 (hK _ _ (j5 (by kernel_rfl)) ?_)); clear hK K)); (first | show AWP _ _ _ _ _ | ((try simp only [q8]); first | show loopQ _ _ _ _ _ _ | show cutQ _ _ _ _ | show AWP _ _ _ _ _))) | ((first | refine q10 rfl rfl rfl ?_ | refine z10 rfl rfl rfl ?_); simp (maxSteps := 2000000) (disch := omega) only [go_sem, seval, policyD, wayD, pairD, spotD, topoD, configD, x10]; (first | refine ⟨_, s1, ?_⟩ | refine ⟨_, s2, ?_⟩ | refine ⟨_, s3, ?_⟩)) | ((first | refine x7 [] rfl ?_ | refine j7 [] rfl ?_); simp (maxSteps := 2000000) (disch := omega) only [go_sem, seval, policyD, wayD, pairD, spotD, topoD, configD, x10]; (repeat (first | refine ⟨by omega, ?_⟩ | refine ⟨True.intro, ?_⟩)))))
      refine x8 ⟨_, ?_, rfl⟩; rw [Try.results71]; simp (disch := omega) only [ResVars, ResVar, ptrLoc, go_sem, seval, policyD, wayD, pairD, spotD, topoD, configD, x10]
    · cases b3
      · simp only [if_true, Bool.true_eq_false, if_false]
        rw [if_pos (by decide)]
        refine j10 Try.func71 rfl (by decide +kernel) (by rw [Try.ntmps71]; simp) ?_; rw [Try.ntmps71]; simp only [frOf]
        (repeat (first | refine j0 ?_ | refine q7 rfl ?_ | refine z7 rfl ?_ | refine j6 ?_ | (refine j4 fun K hK => ?_) | (refine x5 (by kernel_rfl) (by kernel_rfl) fun K hK => ?_) | ((first | refine z6 ?_ | refine x6 ?_ | ((first | refine z2 (hK _ ?_) | refine q6 (hK _ _ (j5 (by kernel_rfl)) ?_)); clear hK K)); (first | show AWP _ _ _ _ _ | ((try simp only [q8]); first | show loopQ _ _ _ _ _ _ | show cutQ _ _ _ _ | show AWP _ _ _ _ _))) | ((first | refine q10 rfl rfl rfl ?_ | refine z10 rfl rfl rfl ?_); simp (maxSteps := 2000000) (disch := omega) only [go_sem, seval, policyD, wayD, pairD, spotD, topoD, configD, x10]; (first | refine ⟨_, s1, ?_⟩ | refine ⟨_, s2, ?_⟩ | refine ⟨_, s3, ?_⟩)) | ((first | refine x7 [] rfl ?_ | refine j7 [] rfl ?_); simp (maxSteps := 2000000) (disch := omega) only [go_sem, seval, policyD, wayD, pairD, spotD, topoD, configD, x10]; (repeat (first | refine ⟨by omega, ?_⟩ | refine ⟨True.intro, ?_⟩)))))
        refine x8 ⟨_, ?_, rfl⟩; rw [Try.results71]; simp (disch := omega) only [ResVars, ResVar, ptrLoc, go_sem, seval, policyD, wayD, pairD, spotD, topoD, configD, x10]
      · simp only [if_true, Bool.true_eq_false, if_false]
        rw [if_neg (by decide)]
        by_cases h4 : c.tb.length = c.tp.length
        · rw [if_neg (by omega)]
          have q : ((c.tb.length : Int) != (c.tp.length : Int)) = false := ine_ff (by omega)
          generalize hR : errF (tabE c) c.tb.length 0 = R
          refine j10 Try.func71 rfl (by decide +kernel) (by rw [Try.ntmps71]; simp) ?_; rw [Try.ntmps71]; simp only [frOf]
          (repeat (first | refine j0 ?_ | refine q7 rfl ?_ | refine z7 rfl ?_ | refine j6 ?_ | (refine j4 fun K hK => ?_) | (refine x5 (by kernel_rfl) (by kernel_rfl) fun K hK => ?_) | ((first | refine z6 ?_ | refine x6 ?_ | ((first | refine z2 (hK _ ?_) | refine q6 (hK _ _ (j5 (by kernel_rfl)) ?_)); clear hK K)); (first | show AWP _ _ _ _ _ | ((try simp only [q8]); first | show loopQ _ _ _ _ _ _ | show cutQ _ _ _ _ | show AWP _ _ _ _ _))) | ((first | refine q10 rfl rfl rfl ?_ | refine z10 rfl rfl rfl ?_); simp (maxSteps := 2000000) (disch := omega) only [go_sem, seval, policyD, wayD, pairD, spotD, topoD, configD, x10, q]; (first | refine ⟨_, s1, ?_⟩ | refine ⟨_, s2, ?_⟩ | refine ⟨_, s3, ?_⟩)) | ((first | refine x7 [] rfl ?_ | refine j7 [] rfl ?_); simp (maxSteps := 2000000) (disch := omega) only [go_sem, seval, policyD, wayD, pairD, spotD, topoD, configD, x10, q]; (repeat (first | refine ⟨by omega, ?_⟩ | refine ⟨True.intro, ?_⟩)))))
          refine awp_loop (soundCI c R) (fun s => c.tb.length - s.val) ⟨0, Nat.zero_le _, hR⟩ ?_ (fun s => ?_)
          · unfold soundCI
            refine Weak.list ?_ ?_; (all_goals simp (disch := omega) only [AllF, AllL, q9, x9, j8, exists_eq_left', Option.some.injEq, go_sem, seval, policyD, wayD, pairD, spotD, topoD, configD, x10]); (all_goals (repeat' (with_reducible apply And.intro))); (all_goals try (first | exact z8 rfl | (refine j9 ?_; omega) | (refine z8 ?_; simp; done)))
          obtain ⟨i, hi, hr⟩ := s
          unfold soundCI
          simp only [] at hi hr ⊢
          by_cases h : i < c.tb.length
          · rw [errF_step h] at hr
            have r1 := rowTT_at c.tb i
            have r2 := rowPP_at c.tp i
            have ct := SoundTab_c (c.tb.getD i []) (c.tp.getD i []) (hat i) (small_at htp i)
            have hte : tabE c i = soundTab (c.tb.getD i []) (c.tp.getD i []) := rfl
            rw [hte] at hr
            have l1 := small_at htp i
            have l2 := (hat i).1
            generalize soundTab (c.tb.getD i []) (c.tp.getD i []) = e at hr ct
            generalize c.tb.getD i [] = ts at r1 ct l2
            generalize c.tp.getD i [] = ps at r2 ct l1
            by_cases he : e = 0
            · subst he
              rw [if_pos rfl] at hr
              (repeat (first | refine j0 ?_ | refine q7 rfl ?_ | refine z7 rfl ?_ | refine j6 ?_ | (refine j4 fun K hK => ?_) | (refine x5 (by kernel_rfl) (by kernel_rfl) fun K hK => ?_) | ((first | refine z6 ?_ | refine x6 ?_ | ((first | refine z2 (hK _ ?_) | refine q6 (hK _ _ (j5 (by kernel_rfl)) ?_)); clear hK K)); (first | show AWP _ _ _ _ _ | ((try simp only [q8]); first | show loopQ _ _ _ _ _ _ | show cutQ _ _ _ _ | show AWP _ _ _ _ _))) | ((first | refine q10 rfl rfl rfl ?_ | refine z10 rfl rfl rfl ?_); simp (maxSteps := 2000000) (disch := omega) only [go_sem, seval, policyD, wayD, pairD, spotD, topoD, configD, x10, r1, r2]; (first | refine ⟨_, ct, ?_⟩)) | ((first | refine x7 [] rfl ?_ | refine j7 [] rfl ?_); simp (maxSteps := 2000000) (disch := omega) only [go_sem, seval, policyD, wayD, pairD, spotD, topoD, configD, x10, r1, r2]; (repeat (first | refine ⟨by omega, ?_⟩ | refine ⟨True.intro, ?_⟩)))))
              refine ⟨⟨i + 1, by omega, hr⟩, by simp only []; omega, ?_⟩
              refine Weak.list ?_ ?_; (all_goals simp (disch := omega) only [AllF, AllL, q9, x9, j8, exists_eq_left', Option.some.injEq, go_sem, seval, policyD, wayD, pairD, spotD, topoD, configD, x10, r1, r2]); (all_goals (repeat' (with_reducible apply And.intro))); (all_goals try (first | exact z8 rfl | (refine j9 ?_; omega) | (refine z8 ?_; simp; done)))
            · rw [if_neg he] at hr
              have q2 : (e != 0) = true := ine_tt he
              subst hr
              (repeat (first | refine j0 ?_ | refine q7 rfl ?_ | refine z7 rfl ?_ | refine j6 ?_ | (refine j4 fun K hK => ?_) | (refine x5 (by kernel_rfl) (by kernel_rfl) fun K hK => ?_) | ((first | refine z6 ?_ | refine x6 ?_ | ((first | refine z2 (hK _ ?_) | refine q6 (hK _ _ (j5 (by kernel_rfl)) ?_)); clear hK K)); (first | show AWP _ _ _ _ _ | ((try simp only [q8]); first | show loopQ _ _ _ _ _ _ | show cutQ _ _ _ _ | show AWP _ _ _ _ _))) | ((first | refine q10 rfl rfl rfl ?_ | refine z10 rfl rfl rfl ?_); simp (maxSteps := 2000000) (disch := omega) only [go_sem, seval, policyD, wayD, pairD, spotD, topoD, configD, x10, r1, r2, q2]; (first | refine ⟨_, ct, ?_⟩)) | ((first | refine x7 [] rfl ?_ | refine j7 [] rfl ?_); simp (maxSteps := 2000000) (disch := omega) only [go_sem, seval, policyD, wayD, pairD, spotD, topoD, configD, x10, r1, r2, q2]; (repeat (first | refine ⟨by omega, ?_⟩ | refine ⟨True.intro, ?_⟩)))))
              refine x8 ⟨_, ?_, rfl⟩; rw [Try.results71]; simp (disch := omega) only [ResVars, ResVar, ptrLoc, go_sem, seval, policyD, wayD, pairD, spotD, topoD, configD, x10, r1, r2, q2]
          · rw [errF_done (show c.tb.length ≤ i by omega)] at hr
            subst hr
            (repeat (first | refine j0 ?_ | refine q7 rfl ?_ | refine z7 rfl ?_ | refine j6 ?_ | (refine j4 fun K hK => ?_) | (refine x5 (by kernel_rfl) (by kernel_rfl) fun K hK => ?_) | ((first | refine z6 ?_ | refine x6 ?_ | ((first | refine z2 (hK _ ?_) | refine q6 (hK _ _ (j5 (by kernel_rfl)) ?_)); clear hK K)); (first | show AWP _ _ _ _ _ | ((try simp only [q8]); first | show loopQ _ _ _ _ _ _ | show cutQ _ _ _ _ | show AWP _ _ _ _ _))) | ((first | refine x7 [] rfl ?_ | refine j7 [] rfl ?_); simp (maxSteps := 2000000) (disch := omega) only [go_sem, seval, policyD, wayD, pairD, spotD, topoD, configD, x10]; (repeat (first | refine ⟨by omega, ?_⟩ | refine ⟨True.intro, ?_⟩)))))
            refine x8 ⟨_, ?_, rfl⟩; rw [Try.results71]; simp (disch := omega) only [ResVars, ResVar, ptrLoc, go_sem, seval, policyD, wayD, pairD, spotD, topoD, configD, x10]
        · rw [if_pos h4]
          have q : ((c.tb.length : Int) != (c.tp.length : Int)) = true := ine_tt (by omega)
          refine j10 Try.func71 rfl (by decide +kernel) (by rw [Try.ntmps71]; simp) ?_; rw [Try.ntmps71]; simp only [frOf]
          (repeat (first | refine j0 ?_ | refine q7 rfl ?_ | refine z7 rfl ?_ | refine j6 ?_ | (refine j4 fun K hK => ?_) | (refine x5 (by kernel_rfl) (by kernel_rfl) fun K hK => ?_) | ((first | refine z6 ?_ | refine x6 ?_ | ((first | refine z2 (hK _ ?_) | refine q6 (hK _ _ (j5 (by kernel_rfl)) ?_)); clear hK K)); (first | show AWP _ _ _ _ _ | ((try simp only [q8]); first | show loopQ _ _ _ _ _ _ | show cutQ _ _ _ _ | show AWP _ _ _ _ _))) | ((first | refine q10 rfl rfl rfl ?_ | refine z10 rfl rfl rfl ?_); simp (maxSteps := 2000000) (disch := omega) only [go_sem, seval, policyD, wayD, pairD, spotD, topoD, configD, x10, q]; (first | refine ⟨_, s1, ?_⟩ | refine ⟨_, s2, ?_⟩ | refine ⟨_, s3, ?_⟩)) | ((first | refine x7 [] rfl ?_ | refine j7 [] rfl ?_); simp (maxSteps := 2000000) (disch := omega) only [go_sem, seval, policyD, wayD, pairD, spotD, topoD, configD, x10, q]; (repeat (first | refine ⟨by omega, ?_⟩ | refine ⟨True.intro, ?_⟩)))))
          refine x8 ⟨_, ?_, rfl⟩; rw [Try.results71]; simp (disch := omega) only [ResVars, ResVar, ptrLoc, go_sem, seval, policyD, wayD, pairD, spotD, topoD, configD, x10, q]
  · rw [if_pos h1]
    have q : (e1 != 0) = true := ine_tt h1
    refine j10 Try.func71 rfl (by decide +kernel) (by rw [Try.ntmps71]; simp) ?_; rw [Try.ntmps71]; simp only [frOf]
    (repeat (first | refine j0 ?_ | refine q7 rfl ?_ | refine z7 rfl ?_ | refine j6 ?_ | (refine j4 fun K hK => ?_) | (refine x5 (by kernel_rfl) (by kernel_rfl) fun K hK => ?_) | ((first | refine z6 ?_ | refine x6 ?_ | ((first | refine z2 (hK _ ?_) | refine q6 (hK _ _ (j5 (by kernel_rfl)) ?_)); clear hK K)); (first | show AWP _ _ _ _ _ | ((try simp only [q8]); first | show loopQ _ _ _ _ _ _ | show cutQ _ _ _ _ | show AWP _ _ _ _ _))) | ((first | refine q10 rfl rfl rfl ?_ | refine z10 rfl rfl rfl ?_); simp (maxSteps := 2000000) (disch := omega) only [go_sem, seval, policyD, wayD, pairD, spotD, topoD, configD, x10, q]; (first | refine ⟨_, s1, ?_⟩)) | ((first | refine x7 [] rfl ?_ | refine j7 [] rfl ?_); simp (maxSteps := 2000000) (disch := omega) only [go_sem, seval, policyD, wayD, pairD, spotD, topoD, configD, x10, q]; (repeat (first | refine ⟨by omega, ?_⟩ | refine ⟨True.intro, ?_⟩)))))
    refine x8 ⟨_, ?_, rfl⟩; rw [Try.results71]; simp (disch := omega) only [ResVars, ResVar, ptrLoc, go_sem, seval, policyD, wayD, pairD, spotD, topoD, configD, x10, q]
end Go.Proofs.Ytbiildleaelodaa
set_option linter.unusedSimpArgs false
set_option linter.unusedVariables false
namespace Go.Proofs.Ytbiildleaelodaa
open Go.Proofs.Ytbiildleaelodaa.AL
def spotI (l : List Spot) (x : Spot) (q : Nat → Bool) (R : Int) (s : {i : Nat // i ≤ l.length ∧ idxN q (l.length - i) i = R}) : ASt :=
  ⟨[(8, .p (.d (.v (.int .i64 (s.val : Int))))), (7, .p (.d (.v (.int .i64 (l.length : Int))))), (3, .p (.d (.bx (spotD x)))), (0, .p (.d (.sl 2 l.length (rowS l))))], []⟩
theorem eqI_spot (a b : Spot) : eqI [a.sw, a.po] [b.sw, b.po] = (a == b) := by
  obtain ⟨a1, a2⟩ := a
  obtain ⟨b1, b2⟩ := b
  rw [Bool.eq_iff_iff]
  simp [eqI]
set_option maxHeartbeats 1000000 in
theorem IndexS_c (l : List Spot) (x : Spot) (hl : l.length ≤ 1099511627776) :
    ACalls Try.prog 104 [.d (.sl 2 l.length (rowS l)), .agg (spotD x)] (· = [.d (.v (.int .i64 (idxN (fun i => x == l.getD i s0) l.length 0)))]) := by
  have hstep := fun i (h : i < l.length) => idxN_step (q := fun i => x == l.getD i s0) h
  have hq : ∀ i, (fun i => x == l.getD i s0) i = (x == l.getD i s0) := fun i => rfl
  generalize (fun i => x == l.getD i s0) = q at hstep hq
  generalize hR : idxN q l.length 0 = R
  refine j10 Try.func104 rfl (by decide +kernel) (by rw [Try.ntmps104]; simp) ?_; rw [Try.ntmps104]; simp only [frOf]
  (repeat (first | refine j0 ?_ | refine q7 rfl ?_ | refine z7 rfl ?_ | refine j6 ?_ | (refine j4 fun K hK => ?_) | (refine x5 (by kernel_rfl) (by kernel_rfl) fun K hK => ?_) | ((first | refine z6 ?_ | refine x6 ?_ | ((first | refine z2 (hK _ ?_) | refine q6 (hK _ _ (j5 (by kernel_rfl)) ?_)); clear hK K)); (first | show AWP _ _ _ _ _ | ((try simp only [q8]); first | show loopQ _ _ _ _ _ _ | show cutQ _ _ _ _ | show AWP _ _ _ _ _))) | ((first | refine x7 [] rfl ?_ | refine j7 [] rfl ?_); simp (maxSteps := 2000000) (disch := omega) only [go_sem, seval, policyD, wayD, spotD, x10]; (repeat (first | refine ⟨by omega, ?_⟩ | refine ⟨True.intro, ?_⟩)))))
  refine awp_loop (spotI l x q R) (fun s => l.length - s.val) ⟨0, Nat.zero_le _, hR⟩ ?_ (fun s => ?_)
  · unfold spotI
    refine Weak.list ?_ ?_; (all_goals simp (disch := omega) only [AllF, AllL, q9, x9, j8, exists_eq_left', Option.some.injEq, go_sem, seval, policyD, wayD, spotD, x10]); (all_goals (repeat' (with_reducible apply And.intro))); (all_goals try (first | exact z8 rfl | (refine j9 ?_; omega) | (refine z8 ?_; simp; done)))
  obtain ⟨i, h1, h2⟩ := s
  unfold spotI
  simp only [] at h1 h2 ⊢
  by_cases h : i < l.length
  · have r1 := rowS_at l i
    rw [hstep i h] at h2
    generalize l.getD i s0 = y at r1 h2
    have e := eqI_spot x y
    generalize (x == y) = b at e h2
    simp only [spotD] at r1
    cases b
    · simp only [Bool.false_eq_true, if_false] at h2
      (repeat (first | refine j0 ?_ | refine q7 rfl ?_ | refine z7 rfl ?_ | refine j6 ?_ | (refine j4 fun K hK => ?_) | (refine x5 (by kernel_rfl) (by kernel_rfl) fun K hK => ?_) | ((first | refine z6 ?_ | refine x6 ?_ | ((first | refine z2 (hK _ ?_) | refine q6 (hK _ _ (j5 (by kernel_rfl)) ?_)); clear hK K)); (first | show AWP _ _ _ _ _ | ((try simp only [q8]); first | show loopQ _ _ _ _ _ _ | show cutQ _ _ _ _ | show AWP _ _ _ _ _))) | ((first | refine x7 [] rfl ?_ | refine j7 [] rfl ?_); simp (maxSteps := 2000000) (disch := omega) only [go_sem, seval, policyD, wayD, spotD, x10, r1, e]; (repeat (first | refine ⟨by omega, ?_⟩ | refine ⟨True.intro, ?_⟩)))))
      refine ⟨⟨i + 1, by omega, h2⟩, by simp only []; omega, ?_⟩
      refine Weak.list ?_ ?_; (all_goals simp (disch := omega) only [AllF, AllL, q9, x9, j8, exists_eq_left', Option.some.injEq, go_sem, seval, policyD, wayD, spotD, x10, r1, e]); (all_goals (repeat' (with_reducible apply And.intro))); (all_goals try (first | exact z8 rfl | (refine j9 ?_; omega) | (refine z8 ?_; simp; done)))
    · simp only [if_true] at h2
      subst h2
      (repeat (first | refine j0 ?_ | refine q7 rfl ?_ | refine z7 rfl ?_ | refine j6 ?_ | (refine j4 fun K hK => ?_) | (refine x5 (by kernel_rfl) (by kernel_rfl) fun K hK => ?_) | ((first | refine z6 ?_ | refine x6 ?_ | ((first | refine z2 (hK _ ?_) | refine q6 (hK _ _ (j5 (by kernel_rfl)) ?_)); clear hK K)); (first | show AWP _ _ _ _ _ | ((try simp only [q8]); first | show loopQ _ _ _ _ _ _ | show cutQ _ _ _ _ | show AWP _ _ _ _ _))) | ((first | refine x7 [] rfl ?_ | refine j7 [] rfl ?_); simp (maxSteps := 2000000) (disch := omega) only [go_sem, seval, policyD, wayD, spotD, x10, r1, e]; (repeat (first | refine ⟨by omega, ?_⟩ | refine ⟨True.intro, ?_⟩)))))
      refine x8 ⟨_, ?_, rfl⟩; rw [Try.results104]; simp (disch := omega) only [ResVars, ResVar, ptrLoc, go_sem, seval, policyD, wayD, spotD, x10, r1, e]
  · rw [idxN_done (by omega)] at h2
    subst h2
    (repeat (first | refine j0 ?_ | refine q7 rfl ?_ | refine z7 rfl ?_ | refine j6 ?_ | (refine j4 fun K hK => ?_) | (refine x5 (by kernel_rfl) (by kernel_rfl) fun K hK => ?_) | ((first | refine z6 ?_ | refine x6 ?_ | ((first | refine z2 (hK _ ?_) | refine q6 (hK _ _ (j5 (by kernel_rfl)) ?_)); clear hK K)); (first | show AWP _ _ _ _ _ | ((try simp only [q8]); first | show loopQ _ _ _ _ _ _ | show cutQ _ _ _ _ | show AWP _ _ _ _ _))) | ((first | refine x7 [] rfl ?_ | refine j7 [] rfl ?_); simp (maxSteps := 2000000) (disch := omega) only [go_sem, seval, policyD, wayD, spotD, x10]; (repeat (first | refine ⟨by omega, ?_⟩ | refine ⟨True.intro, ?_⟩)))))
    refine x8 ⟨_, ?_, rfl⟩; rw [Try.results104]; simp (disch := omega) only [ResVars, ResVar, ptrLoc, go_sem, seval, policyD, wayD, spotD, x10]
theorem ContainsS_c (l : List Spot) (x : Spot) (hl : l.length ≤ 1099511627776) : ACalls Try.prog 72 [.d (.sl 2 l.length (rowS l)), .agg (spotD x)] (· = [.d (.v (.bool (l.contains x)))]) := by
  have c := IndexS_c l x hl
  have e := idxN_any (q := fun i => x == l.getD i s0) (m := l.length) (i := 0)
  rw [any_getD l s0 (fun y => x == y), List.any_beq] at e
  rw [← e]
  generalize idxN (fun i => x == l.getD i s0) l.length 0 = r at c
  simp only [spotD] at c
  refine j10 Try.func72 rfl (by decide +kernel) (by rw [Try.ntmps72]; simp) ?_; rw [Try.ntmps72]; simp only [frOf]
  (repeat (first | refine j0 ?_ | refine q7 rfl ?_ | refine z7 rfl ?_ | refine j6 ?_ | (refine j4 fun K hK => ?_) | (refine x5 (by kernel_rfl) (by kernel_rfl) fun K hK => ?_) | ((first | refine z6 ?_ | refine x6 ?_ | ((first | refine z2 (hK _ ?_) | refine q6 (hK _ _ (j5 (by kernel_rfl)) ?_)); clear hK K)); (first | show AWP _ _ _ _ _ | ((try simp only [q8]); first | show loopQ _ _ _ _ _ _ | show cutQ _ _ _ _ | show AWP _ _ _ _ _))) | ((first | refine q10 rfl rfl rfl ?_ | refine z10 rfl rfl rfl ?_); simp (maxSteps := 2000000) (disch := omega) only [go_sem, seval, policyD, wayD, spotD, x10]; (first | refine ⟨_, c, ?_⟩)) | ((first | refine x7 [] rfl ?_ | refine j7 [] rfl ?_); simp (maxSteps := 2000000) (disch := omega) only [go_sem, seval, policyD, wayD, spotD, x10]; (repeat (first | refine ⟨by omega, ?_⟩ | refine ⟨True.intro, ?_⟩)))))
  refine x8 ⟨_, ?_, rfl⟩; rw [Try.results72]; simp (disch := omega) only [ResVars, ResVar, ptrLoc, go_sem, seval, policyD, wayD, spotD, x10]
end Go.Proofs.Ytbiildleaelodaa
set_option linter.unusedSimpArgs false
set_option linter.unusedVariables false
namespace Go.Proofs.Ytbiildleaelodaa
open Go.Proofs.Ytbiildleaelodaa.AL
end Go.Proofs.Ytbiildleaelodaa
set_option linter.unusedSimpArgs false
set_option linter.unusedVariables false
namespace Go.Proofs.Ytbiildleaelodaa
open Go.Proofs.Ytbiildleaelodaa.AL
end Go.Proofs.Ytbiildleaelodaa
set_option linter.unusedSimpArgs false
set_option linter.unusedVariables false
namespace Go.Proofs.Ytbiildleaelodaa
open Go.Proofs.Ytbiildleaelodaa.AL
end Go.Proofs.Ytbiildleaelodaa
set_option linter.unusedSimpArgs false
set_option linter.unusedVariables false
namespace Go.Proofs.Ytbiildleaelodaa
open Go.Proofs.Ytbiildleaelodaa.AL
end Go.Proofs.Ytbiildleaelodaa
set_option linter.unusedSimpArgs false
set_option linter.unusedVariables false
namespace Go.Proofs.Ytbiildleaelodaa
open Go.Proofs.Ytbiildleaelodaa.AL
theorem ones_bit (n j : Nat) (hj : j < 128) : (ones n).getLsbD j = decide (j < n) := by
  unfold ones
  rw [BitVec.getLsbD_ofNat, Nat.testBit_two_pow_sub_one]
  simp [hj]
theorem bvi_ne (x : BitVec 64) : (bvi x != 0) = (x != 0) := by
  have := bvi_inj (a := x) (b := 0)
  rw [show bvi 0 = 0 from by decide] at this
  show (!(bvi x == 0)) = !(x == 0)
  rw [this]
theorem over_shift (b : Nat) (v : BitVec 64) (hb : b ≤ 64) : over b v = (decide (b < 64) && (bvi v / 2 ^ min b 64 != 0)) := by
  unfold over
  rw [shr_bvi]
  have e : lo (ones b) = bvi ((ones b).extractLsb' 0 64) := rfl
  rw [e, bits_andNot, bvi_ne, bvi_ne]
  have k1 : (v &&& ~~~((ones b).extractLsb' 0 64)) = 0 ↔ ∀ i, i < 64 → v.getLsbD i = true → i < b := by
    constructor
    · intro h i hi hv
      have := congrArg (fun z => z.getLsbD i) h
      simp only [BitVec.getLsbD_and, BitVec.getLsbD_not, BitVec.getLsbD_extractLsb', Nat.zero_add, ones_bit b i (by omega), hi, hv, decide_true, Bool.true_and] at this
      simpa using this
    · intro h
      apply BitVec.eq_of_getLsbD_eq
      intro i hi
      simp only [BitVec.getLsbD_and, BitVec.getLsbD_not, BitVec.getLsbD_extractLsb', Nat.zero_add, ones_bit b i (by omega), hi, decide_true, Bool.true_and]
      cases hv : v.getLsbD i
      · simp
      · simp [h i hi hv]
  have k2 : v >>> b = 0 ↔ ∀ i, i < 64 → v.getLsbD i = true → i < b := by
    constructor
    · intro h i hi hv
      refine Nat.lt_of_not_le fun hle => ?_
      have := congrArg (fun z => z.getLsbD (i - b)) h
      simp only [BitVec.getLsbD_ushiftRight, show b + (i - b) = i from by omega, hv] at this
      simp at this
    · intro h
      apply BitVec.eq_of_getLsbD_eq
      intro i hi
      rw [BitVec.getLsbD_ushiftRight]
      cases hv : v.getLsbD (b + i)
      · simp
      · have h1 : b + i < 64 := by
          refine Nat.lt_of_not_le fun hle => ?_
          rw [BitVec.getLsbD_of_ge v (b + i) hle] at hv; cases hv
        have := h (b + i) h1 hv; omega
  by_cases h64 : b < 64
  · rw [decide_eq_true h64, Bool.true_and]
    have : ((v &&& ~~~((ones b).extractLsb' 0 64)) = 0) = (v >>> b = 0) := propext (k1.trans k2.symm)
    rw [Bool.eq_iff_iff, bne_iff_ne, bne_iff_ne, ne_eq, ne_eq, this]
  · rw [decide_eq_false h64, Bool.false_and]
    have : (v &&& ~~~((ones b).extractLsb' 0 64)) = 0 := k1.2 fun i hi _ => by omega
    rw [this]; rfl
end Go.Proofs.Ytbiildleaelodaa
set_option linter.unusedSimpArgs false
set_option linter.unusedVariables false
namespace Go.Proofs.Ytbiildleaelodaa
open Go.Proofs.Ytbiildleaelodaa.AL
def wordOf (n : Int) : BitVec 64 := BitVec.ofNat 64 n.toNat
theorem wordOf_bvi {n : Int} (h1 : 0 ≤ n) (h2 : n < 9223372036854775808) : bvi (wordOf n) = n := by
  unfold bvi wordOf
  rw [BitVec.toNat_ofNat]
  omega
theorem over_small (b : Nat) (n : Int) (h1 : 0 ≤ n) (h2 : n < 2 ^ b) (hb : b ≤ 32) : over b (wordOf n) = false := by
  have hlt : n < 9223372036854775808 := Int.lt_of_lt_of_le h2 (by
    have : (2 : Int) ^ b ≤ 2 ^ 32 := by
      have h := Nat.pow_le_pow_right (show 1 ≤ 2 by decide) hb
      exact_mod_cast h
    omega)
  rw [over_shift b _ (by omega), wordOf_bvi h1 hlt, show min b 64 = b by omega, Int.ediv_eq_zero_of_lt h1 h2]
  simp
def stampV (tn v : Int) : Cube := mkC (putB (putB 0 88 24 (wordOf (tn + 1))) 112 8 (wordOf v)) (ones 40 <<< 88)
def edgesHas (t : List (List Port)) (s : Spot) : Bool := (edgesT t).contains s
def stampE (c : Config) (s : Spot) (v : Int) : Int := if soundC c ≠ 0 then soundC c else if v < 0 ∨ 255 < v then 4 else if edgesHas c.tp s = false then 7 else 0
def stampC (c : Config) (s : Spot) (v : Int) : Cube := if stampE c s v = 0 then stampV (edgeT c.tp s) v else ⟨0, 0⟩
theorem sound_ports {t : List (List Port)} (h : soundT t = 0) {i j : Nat} (hi : i < t.length) (hj : j < (t.getD i []).length) : portT t i j = true := by
  unfold soundT at h
  split at h
  · cases h
  · split at h
    · cases h
    · split at h
      · rename_i h3
        have h4 := allF_iff.1 h3 i (Nat.zero_le _) hi
        exact allF_iff.1 h4 j (Nat.zero_le _) hj
      · cases h
theorem sound_tenant {t : List (List Port)} (h : soundT t = 0) {s : Spot} (hs : s ∈ edgesT t) : 0 ≤ edgeT t s ∧ edgeT t s < 4 := by
  obtain ⟨i, j, e1, h1, h2, h3⟩ := edgesT_at hs
  obtain ⟨i', j', g1, g2, g3, g4⟩ := edgesTo_mem.1 hs
  have e2 : i' = i ∧ j' = j := by
    rw [e1] at g4
    have a1 := congrArg Spot.sw g4
    have a2 := congrArg Spot.po g4
    simp only [] at a1 a2
    omega
  obtain ⟨rfl, rfl⟩ := e2
  have hp := sound_ports h h1 h2
  rw [h3]
  unfold portT at hp
  simp only [] at hp
  rw [if_neg (by omega), if_pos g3] at hp
  simp only [Bool.and_eq_true, decide_eq_true_eq] at hp
  exact ⟨hp.1.1.1.1, hp.1.1.1.2⟩
theorem putE_small (a b n : Int) (h1 : 0 ≤ n) (h2 : n < 2 ^ b.toNat) (hb : b.toNat ≤ 32) (hf : fieldB a b 64 = true) : putE a b (wordOf n) = 0 := by
  unfold putE
  rw [hf, over_small b.toNat n h1 h2 hb]; rfl
theorem cb_none : cb ⟨0, 0⟩ = [.v (.int .u64 0), .v (.int .u64 0), .v (.int .u64 0), .v (.int .u64 0)] := by unfold cb; simp only [hi_zero, lo_zero]
set_option maxRecDepth 100000 in
set_option maxHeartbeats 4000000 in
theorem StampC_c (c : Config) (s : Spot) (v : Int) (hc : c.small) (hv : -9223372036854775808 ≤ v ∧ v < 9223372036854775808) : ACalls Try.prog 54 [.agg (configD c), .agg (spotD s), .d (.v (.int .i64 v))] (· = [.agg (cb (stampC c s v)), .d (.v (.int .i64 (stampE c s v)))]) := by
  have s1 := SoundC_c c hc
  have eb := edgesTo_len hc.tp c.tp.length
  have et := hc.tp.1
  rw [show edgesTo c.tp c.tp.length = edgesT c.tp from rfl] at eb
  have ed := EdgesT_c c.tp hc.tp
  have ct := ContainsS_c (edgesT c.tp) s (by omega)
  have fail : stampE c s v ≠ 0 → stampC c s v = ⟨0, 0⟩ := fun h => if_neg h
  simp only [configD] at s1
  simp only [topoD] at ed
  simp only [spotD] at ct
  have hst : stampE c s v = if soundC c ≠ 0 then soundC c else if v < 0 ∨ 255 < v then 4 else if (edgesT c.tp).contains s = false then 7 else 0 := rfl
  by_cases h1 : soundC c = 0
  · rw [if_neg (by omega)] at hst
    rw [h1] at s1
    by_cases h2 : v < 0 ∨ 255 < v
    · rw [if_pos h2] at hst
      rw [fail (by rw [hst]; decide), hst, cb_none]
      by_cases h3 : v < 0
      all_goals
        refine j10 Try.func54 rfl (by decide +kernel) (by rw [Try.ntmps54]; simp) ?_; rw [Try.ntmps54]; simp only [frOf]
        (repeat (first | refine j0 ?_ | refine q7 rfl ?_ | refine z7 rfl ?_ | refine j6 ?_ | (refine j4 fun K hK => ?_) | (refine x5 (by kernel_rfl) (by kernel_rfl) fun K hK => ?_) | ((first | refine z6 ?_ | refine x6 ?_ | ((first | refine z2 (hK _ ?_) | refine q6 (hK _ _ (j5 (by kernel_rfl)) ?_)); clear hK K)); (first | show AWP _ _ _ _ _ | ((try simp only [q8]); first | show loopQ _ _ _ _ _ _ | show cutQ _ _ _ _ | show AWP _ _ _ _ _))) | ((first | refine q10 rfl rfl rfl ?_ | refine z10 rfl rfl rfl ?_); simp (maxSteps := 2000000) (disch := omega) only [go_sem, seval, policyD, topoD, configD, spotD, hd, cb]; (first | refine ⟨_, s1, ?_⟩)) | ((first | refine x7 [] rfl ?_ | refine j7 [] rfl ?_); simp (maxSteps := 2000000) (disch := omega) only [go_sem, seval, policyD, topoD, configD, spotD, hd, cb]; (repeat (first | refine ⟨by omega, ?_⟩ | refine ⟨True.intro, ?_⟩)))))
        refine x8 ⟨_, ?_, rfl⟩; rw [Try.results54]; simp (disch := omega) only [ResVars, ResVar, ptrLoc, go_sem, seval, policyD, topoD, configD, spotD, hd, cb]
    · rw [if_neg h2] at hst
      cases hq : (edgesT c.tp).contains s
      · rw [hq] at ct
        rw [if_pos hq] at hst
        rw [fail (by rw [hst]; decide), hst, cb_none]
        generalize edgesT c.tp = l at ed ct
        refine j10 Try.func54 rfl (by decide +kernel) (by rw [Try.ntmps54]; simp) ?_; rw [Try.ntmps54]; simp only [frOf]
        (repeat (first | refine j0 ?_ | refine q7 rfl ?_ | refine z7 rfl ?_ | refine j6 ?_ | (refine j4 fun K hK => ?_) | (refine x5 (by kernel_rfl) (by kernel_rfl) fun K hK => ?_) | ((first | refine z6 ?_ | refine x6 ?_ | ((first | refine z2 (hK _ ?_) | refine q6 (hK _ _ (j5 (by kernel_rfl)) ?_)); clear hK K)); (first | show AWP _ _ _ _ _ | ((try simp only [q8]); first | show loopQ _ _ _ _ _ _ | show cutQ _ _ _ _ | show AWP _ _ _ _ _))) | ((first | refine q10 rfl rfl rfl ?_ | refine z10 rfl rfl rfl ?_); simp (maxSteps := 2000000) (disch := omega) only [go_sem, seval, policyD, topoD, configD, spotD, hd, cb]; (first | refine ⟨_, s1, ?_⟩ | refine ⟨_, ed, ?_⟩ | refine ⟨_, ct, ?_⟩)) | ((first | refine x7 [] rfl ?_ | refine j7 [] rfl ?_); simp (maxSteps := 2000000) (disch := omega) only [go_sem, seval, policyD, topoD, configD, spotD, hd, cb]; (repeat (first | refine ⟨by omega, ?_⟩ | refine ⟨True.intro, ?_⟩)))))
        refine x8 ⟨_, ?_, rfl⟩; rw [Try.results54]; simp (disch := omega) only [ResVars, ResVar, ptrLoc, go_sem, seval, policyD, topoD, configD, spotD, hd, cb]
      · rw [hq] at ct
        rw [if_neg (by rw [hq]; decide)] at hst
        have hs0 : soundT c.tp = 0 := by
          refine Classical.byContradiction fun h => ?_
          unfold soundC at h1
          rw [if_pos h] at h1
          exact h h1
        have hmem : s ∈ edgesT c.tp := by simpa using hq
        obtain ⟨tn1, tn2⟩ := sound_tenant hs0 hmem
        obtain ⟨i, j, e1, b1, b2, e2⟩ := edgesT_at hmem
        have hsc : stampC c s v = stampV (edgeT c.tp s) v := if_pos hst
        rw [hsc, hst]
        unfold stampV
        generalize edgeT c.tp s = tn at tn1 tn2 e2
        have hv0 : 0 ≤ v := by omega
        have p1 := Put_c 0 88 24 (wordOf (tn + 1)) (by omega)
        rw [putE_small 88 24 (tn + 1) (by omega) (by simp; omega) (by decide) (by decide), if_pos rfl, wordOf_bvi (by omega) (by omega)] at p1
        have p2 := Put_c (putB 0 (88 : Int).toNat (24 : Int).toNat (wordOf (tn + 1))) 112 8 (wordOf v) (by omega)
        rw [putE_small 112 8 v hv0 (by simp; omega) (by decide) (by decide), if_pos rfl, wordOf_bvi hv0 (by omega)] at p2
        have mk := Mask_c 88 40 (by omega)
        rw [show fieldB 88 40 128 = true from by decide, if_pos rfl, if_pos rfl] at mk
        generalize hk1 : ones (40 : Int).toNat <<< (88 : Int).toNat = care at mk
        generalize hk2 : putB 0 (88 : Int).toNat (24 : Int).toNat (wordOf (tn + 1)) = x1 at p1 p2
        generalize hk3 : putB x1 (112 : Int).toNat (8 : Int).toNat (wordOf v) = x2 at p2
        have km := Make_c x2 care
        have r1 := rowPP_at c.tp i
        have r2 := rowP_at (c.tp.getD i []) j
        have l1 := small_at hc.tp i
        generalize edgesT c.tp = l at ed ct
        generalize c.tp.getD i [] = ps at r1 r2 b2 e2 l1
        generalize ps.getD j p0 = p at r2 e2
        obtain ⟨kd, pt, pe, at', co⟩ := p
        simp only [portD] at r2
        simp only [] at e2
        subst e2
        subst e1
        simp only [hd] at p1 p2 mk km
        simp only [hi_zero, lo_zero] at p1
        refine j10 Try.func54 rfl (by decide +kernel) (by rw [Try.ntmps54]; simp) ?_; rw [Try.ntmps54]; simp only [frOf]
        (repeat (first | refine j0 ?_ | refine q7 rfl ?_ | refine z7 rfl ?_ | refine j6 ?_ | (refine j4 fun K hK => ?_) | (refine x5 (by kernel_rfl) (by kernel_rfl) fun K hK => ?_) | ((first | refine z6 ?_ | refine x6 ?_ | ((first | refine z2 (hK _ ?_) | refine q6 (hK _ _ (j5 (by kernel_rfl)) ?_)); clear hK K)); (first | show AWP _ _ _ _ _ | ((try simp only [q8]); first | show loopQ _ _ _ _ _ _ | show cutQ _ _ _ _ | show AWP _ _ _ _ _))) | ((first | refine q10 rfl rfl rfl ?_ | refine z10 rfl rfl rfl ?_); simp (maxSteps := 2000000) (disch := omega) only [go_sem, seval, policyD, topoD, configD, spotD, hd, cb, r1, r2]; (first | refine ⟨_, s1, ?_⟩ | refine ⟨_, ed, ?_⟩ | refine ⟨_, ct, ?_⟩ | refine ⟨_, mk, ?_⟩ | refine ⟨_, p1, ?_⟩ | refine ⟨_, p2, ?_⟩ | refine ⟨_, km, ?_⟩)) | ((first | refine x7 [] rfl ?_ | refine j7 [] rfl ?_); simp (maxSteps := 2000000) (disch := omega) only [go_sem, seval, policyD, topoD, configD, spotD, hd, cb, r1, r2]; (repeat (first | refine ⟨by omega, ?_⟩ | refine ⟨True.intro, ?_⟩)))))
        refine x8 ⟨_, ?_, rfl⟩; rw [Try.results54]; simp (disch := omega) only [ResVars, ResVar, ptrLoc, go_sem, seval, policyD, topoD, configD, spotD, hd, cb, r1, r2]
        subst hk3 hk2 hk1
        rfl
  · rw [if_pos h1] at hst
    rw [fail (by rw [hst]; exact h1), hst, cb_none]
    have q : (soundC c != 0) = true := ine_tt h1
    generalize soundC c = e at s1 q
    refine j10 Try.func54 rfl (by decide +kernel) (by rw [Try.ntmps54]; simp) ?_; rw [Try.ntmps54]; simp only [frOf]
    (repeat (first | refine j0 ?_ | refine q7 rfl ?_ | refine z7 rfl ?_ | refine j6 ?_ | (refine j4 fun K hK => ?_) | (refine x5 (by kernel_rfl) (by kernel_rfl) fun K hK => ?_) | ((first | refine z6 ?_ | refine x6 ?_ | ((first | refine z2 (hK _ ?_) | refine q6 (hK _ _ (j5 (by kernel_rfl)) ?_)); clear hK K)); (first | show AWP _ _ _ _ _ | ((try simp only [q8]); first | show loopQ _ _ _ _ _ _ | show cutQ _ _ _ _ | show AWP _ _ _ _ _))) | ((first | refine q10 rfl rfl rfl ?_ | refine z10 rfl rfl rfl ?_); simp (maxSteps := 2000000) (disch := omega) only [go_sem, seval, policyD, topoD, configD, spotD, hd, cb, q]; (first | refine ⟨_, s1, ?_⟩)) | ((first | refine x7 [] rfl ?_ | refine j7 [] rfl ?_); simp (maxSteps := 2000000) (disch := omega) only [go_sem, seval, policyD, topoD, configD, spotD, hd, cb, q]; (repeat (first | refine ⟨by omega, ?_⟩ | refine ⟨True.intro, ?_⟩)))))
    refine x8 ⟨_, ?_, rfl⟩; rw [Try.results54]; simp (disch := omega) only [ResVars, ResVar, ptrLoc, go_sem, seval, policyD, topoD, configD, spotD, hd, cb, q]
end Go.Proofs.Ytbiildleaelodaa
