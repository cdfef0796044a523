/- Part 4 of a proof: lemmas beneath the theorem that the last text bears. Conditions: none. -/
import Derived.Test.YtemcdefpihkfpaaGreatKSlimAlikec
import Derived.Shelf.Spec.SlicesGrow
set_option linter.unusedSimpArgs false
set_option linter.unusedVariables false
namespace Go.Proofs.YtemcdefpihkfpaaGreat
open Go.Proofs.YtemcdefpihkfpaaGreat.AL
def paS (n gen a b : Nat) (g : FuncId) (o : PV) (i j : Nat) (y : Nat → Nat) : ASt :=
 ⟨[(10, .p (.d (.v (.int .i64 (j : Int))))), (9, .p (.d (.v (.int .i64 (i : Int))))), (3, .p (.fn (.func g) [o] [])), (2, .p (.d (.v (.int .i64 (b : Int))))), (1, .p (.d (.v (.int .i64 (a : Int))))), (0, .ow 1000 gen 1 n)],
  [(1000, .own 3 1 n gen (rowN y))]⟩
def paL (n gen a b : Nat) (g : FuncId) (o : PV) (i j : Nat) (k : Nat) (y : Nat → Nat) : ASt :=
 ⟨[(11, .p (.d (.v (.int .i64 (k : Int))))), (10, .p (.d (.v (.int .i64 (j : Int))))), (9, .p (.d (.v (.int .i64 (i : Int))))), (3, .p (.fn (.func g) [o] [])), (2, .p (.d (.v (.int .i64 (b : Int))))), (1, .p (.d (.v (.int .i64 (a : Int))))), (0, .ow 1000 gen 1 n)],
  [(1000, .own 3 1 n gen (rowN y))]⟩
def paR (n gen a b : Nat) (g : FuncId) (o : PV) (i j : Nat) (k : Nat) (y : Nat → Nat) : ASt :=
 ⟨[(12, .p (.d (.v (.int .i64 (k : Int))))), (10, .p (.d (.v (.int .i64 (j : Int))))), (9, .p (.d (.v (.int .i64 (i : Int))))), (3, .p (.fn (.func g) [o] [])), (2, .p (.d (.v (.int .i64 (b : Int))))), (1, .p (.d (.v (.int .i64 (a : Int))))), (0, .ow 1000 gen 1 n)],
  [(1000, .own 3 1 n gen (rowN y))]⟩
structure PA (key : Nat → Int) (a b : Nat) (x : Nat → Nat) (i : Nat) (y : Nat → Nat) : Prop where
 h1 : a + 1 ≤ i
 h2 : i ≤ b
 pe : PE a b x y
 st : Srt key a i y
theorem PA.up {key : Nat → Int} {a b i : Nat} {x y : Nat → Nat} (h : PA key a b x i y) (hl : i < b) (hk : ¬ key (y i) < key (y (i - 1))) : PA key a b x (i + 1) y := by
 refine ⟨by have := h.h1; omega, hl, h.pe, fun p q h1 h2 h3 => ?_⟩
 have := h.h1
 by_cases e : q = i
 ·subst e
  by_cases e2 : p = q - 1
  ·subst e2; omega
  ·have := h.st p (q - 1) h1 (by omega) (by omega); omega
 ·exact h.st p q h1 h2 (by omega)
theorem PA.swap {key : Nat → Int} {a b i : Nat} {x y : Nat → Nat} (h : PA key a b x i y) (hl : i < b) : PE a b x (swp y i (i - 1)) ∧ Srt key a (i - 1) (swp y i (i - 1)) := by
 have := h.h1
 refine ⟨h.pe.trans (PE.swp (by omega) (by omega) (by omega) (by omega)), fun p q h1 h2 h3 => ?_⟩
 rw [q21 _ (by omega) (by omega), q21 _ (by omega) (by omega)]
 exact h.st p q h1 h2 (by omega)
set_option maxRecDepth 100000 in
set_option maxHeartbeats 4000000 in
theorem x149 {key : Nat → Int} {c : Nat → Nat → Int} {g : FuncId} {o : PV} {N : Nat} (hc : CmpN Tryz.prog g o N key c) (x : Nat → Nat) (n gen a b : Nat) (hab : a + 12 < b) (hb : b ≤ n) (hn : n ≤ 1099511627776) (hx : Dom n N x) (hbl : Blw key a b x) :
  MCalls Tryz.prog 170 [.ow 1000 gen 1 n, .p (.d (.v (.int .i64 (a : Int)))), .p (.d (.v (.int .i64 (b : Int)))), .p (.fn (.func g) [o] [])] [(1000, .own 3 1 n gen (rowN x))]
   (fun rs M => ∃ r : {r : Bool × (Nat → Nat) // PE a b x r.2 ∧ (r.1 = true → Srt key a b r.2)}, rs = [.p (.d (.v (.bool r.val.1)))] ∧ M = [(1000, .own 3 1 n gen (rowN r.val.2))]) := by
 have lt1 : ∀ (y : Nat → Nat) (p q : Nat), PE a b x y → p < n → q < n → ACalls Tryz.prog g [o, .d (.v (.int .i64 (y p : Int))), .d (.v (.int .i64 (y q : Int)))] (· = [.d (.v (.int .i64 (c (y p) (y q))))]) ∧ (c (y p) (y q) < 0 ↔ key (y p) < key (y q)) := fun y p q hp h1 h2 =>
  have dy := hx.pe hp (by omega) hb
  ⟨hc.call _ _ (dy.lt _ h1) (dy.lt _ h2), hc.lt _ _ (dy.lt _ h1) (dy.lt _ h2)⟩
 refine z19 Tryz.func170 rfl (by decide +kernel) (by rw [Tryz.ntmps170]; simp) (fun l X h => by simp only [AL.look] at h; (repeat' split at h); all_goals first | omega | cases h) ?_; rw [Tryz.ntmps170]; simp only [frA]
 (repeat (first | apply j0 | refine q8 rfl ?_ | refine z8 rfl ?_ | apply x7 | (refine j4 fun K hK => ?_) | (refine x5 fun K hK => ?_) | ((first | apply j6 | apply z7 | ((first | refine x4 (hK _ ?_) | refine x6 (hK _ _ j5 ?_)); clear hK K)); (first | show AWP _ _ _ _ _ | ((try simp only [j7]); first | show loopQ _ _ _ _ _ _ | show cutQ _ _ _ _ | show AWP _ _ _ _ _))) | ((first | refine x8 [] rfl ?_ | refine j8 [] rfl ?_); simp (disch := omega) only [go_sem, seval, pnP, pnM, pnP1, pnM1]; (repeat (first | refine ⟨by omega, ?_⟩ | refine ⟨True.intro, ?_⟩)))))
 refine x13 (fun s : {s : Nat × Nat × (Nat → Nat) // s.2.1 ≤ 5 ∧ PA key a b x s.1 s.2.2} => paS n gen a b g o s.val.1 s.val.2.1 s.val.2.2) (fun s => 5 - s.val.2.1) ⟨(a + 1, 0, x), by simp only []; omega, ⟨Nat.le_refl _, by omega, PE.refl _ _ _, fun p q h1 h2 h3 => by omega⟩⟩ ?_ (fun s => ?_)
 ·unfold paS
  refine Weak.list ?_ ?_; (all_goals simp (disch := omega) only [AllF, AllL, x11, j11, z11, exists_eq_left', go_sem, seval, pnP, pnM, pnP1, pnM1]); (all_goals (repeat' (with_reducible apply And.intro))); (all_goals try (first | exact q9 rfl | (refine q12 ?_; omega) | (refine q9 ?_; simp; done)))
 obtain ⟨⟨i0, j, y⟩, hj, hs⟩ := s
 unfold paS
 simp only [] at hj hs
 have e1 := hs.h1; have e2 := hs.h2
 by_cases hj5 : j < 5
 ·(repeat (first | apply j0 | refine q8 rfl ?_ | refine z8 rfl ?_ | apply x7 | (refine j4 fun K hK => ?_) | (refine x5 fun K hK => ?_) | ((first | apply j6 | apply z7 | ((first | refine x4 (hK _ ?_) | refine x6 (hK _ _ j5 ?_)); clear hK K)); (first | show AWP _ _ _ _ _ | ((try simp only [j7]); first | show loopQ _ _ _ _ _ _ | show cutQ _ _ _ _ | show AWP _ _ _ _ _))) | ((first | refine x8 [] rfl ?_ | refine j8 [] rfl ?_); simp (disch := omega) only [go_sem, seval, pnP, pnM, pnP1, pnM1]; (repeat (first | refine ⟨by omega, ?_⟩ | refine ⟨True.intro, ?_⟩)))))
  refine j35 (fun i : {i : Nat // PA key a b x i y ∧ (i < b → True)} => paS n gen a b g o i.val j y) ?_ ?_
  ·refine x13 (fun i : {i : Nat // PA key a b x i y} => paS n gen a b g o i.val j y) (fun s => b - s.val) ⟨i0, hs⟩ ?_ (fun s => ?_)
   ·unfold paS
    refine Weak.list ?_ ?_; (all_goals simp (disch := omega) only [AllF, AllL, x11, j11, z11, exists_eq_left', go_sem, seval, pnP, pnM, pnP1, pnM1]); (all_goals (repeat' (with_reducible apply And.intro))); (all_goals try (first | exact q9 rfl | (refine q12 ?_; omega) | (refine q9 ?_; simp; done)))
   obtain ⟨i, hi⟩ := s
   unfold paS
   have g1 := hi.h1; have g2 := hi.h2
   by_cases h : i < b
   ·obtain ⟨i, rfl⟩ : ∃ k, i = k + 1 := ⟨i - 1, by omega⟩
    have r1 := z15 y (i + 1)
    have r2 := z15 y i
    obtain ⟨cc, cl⟩ := lt1 y (i + 1) i hi.pe (by omega) (by omega)
    generalize c (y (i + 1)) (y i) = c0 at cc cl
    by_cases hlt : c0 < 0
    ·(repeat (first | apply j0 | refine q8 rfl ?_ | refine z8 rfl ?_ | apply x7 | (refine j4 fun K hK => ?_) | (refine x5 fun K hK => ?_) | ((first | apply j6 | apply z7 | ((first | refine x4 (hK _ ?_) | refine x6 (hK _ _ j5 ?_)); clear hK K)); (first | show AWP _ _ _ _ _ | ((try simp only [j7]); first | show loopQ _ _ _ _ _ _ | show cutQ _ _ _ _ | show AWP _ _ _ _ _))) | ((first | refine j10 rfl rfl rfl ?_ | refine q11 rfl rfl rfl ?_); simp (disch := omega) only [go_sem, seval, pnP, pnM, pnP1, pnM1, r1, r2]; (first | refine ⟨_, cc, ?_⟩)) | ((first | refine x8 [] rfl ?_ | refine j8 [] rfl ?_); simp (disch := omega) only [go_sem, seval, pnP, pnM, pnP1, pnM1, r1, r2]; (repeat (first | refine ⟨by omega, ?_⟩ | refine ⟨True.intro, ?_⟩)))))
     (show cutQ _ _ .normal _); refine x17 (⟨i + 1, hi, fun _ => trivial⟩) ?_
     refine Weak.list ?_ ?_; (all_goals simp (disch := omega) only [AllF, AllL, x11, j11, z11, exists_eq_left', go_sem, seval, pnP, pnM, pnP1, pnM1, r1, r2]); (all_goals (repeat' (with_reducible apply And.intro))); (all_goals try (first | exact q9 rfl | (refine q12 ?_; omega) | (refine q9 ?_; simp; done)))
    ·(repeat (first | apply j0 | refine q8 rfl ?_ | refine z8 rfl ?_ | apply x7 | (refine j4 fun K hK => ?_) | (refine x5 fun K hK => ?_) | ((first | apply j6 | apply z7 | ((first | refine x4 (hK _ ?_) | refine x6 (hK _ _ j5 ?_)); clear hK K)); (first | show AWP _ _ _ _ _ | ((try simp only [j7]); first | show loopQ _ _ _ _ _ _ | show cutQ _ _ _ _ | show AWP _ _ _ _ _))) | ((first | refine j10 rfl rfl rfl ?_ | refine q11 rfl rfl rfl ?_); simp (disch := omega) only [go_sem, seval, pnP, pnM, pnP1, pnM1, r1, r2]; (first | refine ⟨_, cc, ?_⟩)) | ((first | refine x8 [] rfl ?_ | refine j8 [] rfl ?_); simp (disch := omega) only [go_sem, seval, pnP, pnM, pnP1, pnM1, r1, r2]; (repeat (first | refine ⟨by omega, ?_⟩ | refine ⟨True.intro, ?_⟩)))))
     refine ⟨⟨i + 2, hi.up (by omega) (fun e => hlt (cl.2 e))⟩, by simp only []; omega, ?_⟩
     refine Weak.list ?_ ?_; (all_goals simp (disch := omega) only [AllF, AllL, x11, j11, z11, exists_eq_left', go_sem, seval, pnP, pnM, pnP1, pnM1, r1, r2]); (all_goals (repeat' (with_reducible apply And.intro))); (all_goals try (first | exact q9 rfl | (refine q12 ?_; omega) | (refine q9 ?_; simp; done)))
   ·(repeat (first | apply j0 | refine q8 rfl ?_ | refine z8 rfl ?_ | apply x7 | (refine j4 fun K hK => ?_) | (refine x5 fun K hK => ?_) | ((first | apply j6 | apply z7 | ((first | refine x4 (hK _ ?_) | refine x6 (hK _ _ j5 ?_)); clear hK K)); (first | show AWP _ _ _ _ _ | ((try simp only [j7]); first | show loopQ _ _ _ _ _ _ | show cutQ _ _ _ _ | show AWP _ _ _ _ _))) | ((first | refine x8 [] rfl ?_ | refine j8 [] rfl ?_); simp (disch := omega) only [go_sem, seval, pnP, pnM, pnP1, pnM1]; (repeat (first | refine ⟨by omega, ?_⟩ | refine ⟨True.intro, ?_⟩)))))
    (show cutQ _ _ .normal _); refine x17 (⟨i, hi, fun _ => trivial⟩) ?_
    refine Weak.list ?_ ?_; (all_goals simp (disch := omega) only [AllF, AllL, x11, j11, z11, exists_eq_left', go_sem, seval, pnP, pnM, pnP1, pnM1]); (all_goals (repeat' (with_reducible apply And.intro))); (all_goals try (first | exact q9 rfl | (refine q12 ?_; omega) | (refine q9 ?_; simp; done)))
  rintro ⟨i, hi, -⟩
  unfold paS
  clear e1 e2
  simp only []
  have g1 := hi.h1; have g2 := hi.h2
  by_cases hib : i = b
  ·subst hib
   have q : ((i : Int) == (i : Int)) = true := q17 rfl
   (repeat (first | apply j0 | refine q8 rfl ?_ | refine z8 rfl ?_ | apply x7 | (refine j4 fun K hK => ?_) | (refine x5 fun K hK => ?_) | ((first | apply j6 | apply z7 | ((first | refine x4 (hK _ ?_) | refine x6 (hK _ _ j5 ?_)); clear hK K)); (first | show AWP _ _ _ _ _ | ((try simp only [j7]); first | show loopQ _ _ _ _ _ _ | show cutQ _ _ _ _ | show AWP _ _ _ _ _))) | ((first | refine x8 [] rfl ?_ | refine j8 [] rfl ?_); simp (disch := omega) only [go_sem, seval, pnP, pnM, pnP1, pnM1, q]; (repeat (first | refine ⟨by omega, ?_⟩ | refine ⟨True.intro, ?_⟩)))))
   exact q10 (q20 [_] [(1000, _)] ⟨rfl, trivial⟩ (by simp [AL.look] <;> first | rfl | exact ⟨rfl, rfl⟩) ⟨⟨(true, y), hi.pe, fun _ => hi.st⟩, rfl, rfl⟩)
  ·have q : ((i : Int) == (b : Int)) = false := z16 (by omega)
   by_cases h50 : b - a < 50
   ·(repeat (first | apply j0 | refine q8 rfl ?_ | refine z8 rfl ?_ | apply x7 | (refine j4 fun K hK => ?_) | (refine x5 fun K hK => ?_) | ((first | apply j6 | apply z7 | ((first | refine x4 (hK _ ?_) | refine x6 (hK _ _ j5 ?_)); clear hK K)); (first | show AWP _ _ _ _ _ | ((try simp only [j7]); first | show loopQ _ _ _ _ _ _ | show cutQ _ _ _ _ | show AWP _ _ _ _ _))) | ((first | refine x8 [] rfl ?_ | refine j8 [] rfl ?_); simp (disch := omega) only [go_sem, seval, pnP, pnM, pnP1, pnM1, q]; (repeat (first | refine ⟨by omega, ?_⟩ | refine ⟨True.intro, ?_⟩)))))
    exact q10 (q20 [_] [(1000, _)] ⟨rfl, trivial⟩ (by simp [AL.look] <;> first | rfl | exact ⟨rfl, rfl⟩) ⟨⟨(false, y), hi.pe, fun h => by cases h⟩, rfl, rfl⟩)
   ·obtain ⟨p1, p2⟩ := hi.swap (by omega)
    obtain ⟨i, rfl⟩ : ∃ k, i = k + 1 := ⟨i - 1, by omega⟩
    rw [Nat.add_sub_cancel] at p1 p2
    have r1 := z15 y (i + 1)
    have r2 := z15 y i
    (repeat ((fail_if_success (show AWP _ _ (.region 12 _ _) _ _)); first | apply j0 | refine q8 rfl ?_ | refine z8 rfl ?_ | apply x7 | (refine j4 fun K hK => ?_) | (refine x5 fun K hK => ?_) | ((first | apply j6 | apply z7 | ((first | refine x4 (hK _ ?_) | refine x6 (hK _ _ j5 ?_)); clear hK K)); (first | show AWP _ _ _ _ _ | ((try simp only [j7]); first | show loopQ _ _ _ _ _ _ | show cutQ _ _ _ _ | show AWP _ _ _ _ _))) | ((first | refine x8 [] rfl ?_ | refine j8 [] rfl ?_); simp (disch := omega) only [go_sem, seval, pnP, pnM, pnP1, pnM1, q, r1, r2]; (repeat (first | refine ⟨by omega, ?_⟩ | refine ⟨True.intro, ?_⟩)))))
    refine q18 (A' := paS n gen a b g o (i + 1) j (swp y (i + 1) i)) ?_ ?_
    ·unfold paS
     refine Weak.list ?_ ?_; (all_goals simp (disch := omega) only [AllF, AllL, x11, j11, z11, exists_eq_left', go_sem, seval, pnP, pnM, pnP1, pnM1]); (all_goals (repeat' (with_reducible apply And.intro))); (all_goals try (first | exact q9 rfl | (refine q12 ?_; omega) | (refine q9 ?_; simp; done)))
     exact x19 rfl rfl (fun k _ => j22 y (i + 1) i k)
    generalize swp y (i + 1) i = y1 at p1 p2
    unfold paS
    refine j32 (fun z : {z : Nat → Nat // PE a b x z ∧ Srt key a (i + 1) z} => paS n gen a b g o (i + 1) j z.val) ?_ ?_
    ·by_cases h2 : (i + 1) - a ≥ 2
     ·(repeat (first | apply j0 | refine q8 rfl ?_ | refine z8 rfl ?_ | apply x7 | (refine j4 fun K hK => ?_) | (refine x5 fun K hK => ?_) | ((first | apply j6 | apply z7 | ((first | refine x4 (hK _ ?_) | refine x6 (hK _ _ j5 ?_)); clear hK K)); (first | show AWP _ _ _ _ _ | ((try simp only [j7]); first | show loopQ _ _ _ _ _ _ | show cutQ _ _ _ _ | show AWP _ _ _ _ _))) | ((first | refine x8 [] rfl ?_ | refine j8 [] rfl ?_); simp (disch := omega) only [go_sem, seval, pnP, pnM, pnP1, pnM1]; (repeat (first | refine ⟨by omega, ?_⟩ | refine ⟨True.intro, ?_⟩)))))
      refine x13 (fun s : {s : Nat × (Nat → Nat) // a ≤ s.1 ∧ s.1 ≤ i ∧ PE a b x s.2 ∧ InsAt key a i s.1 s.2} => paL n gen a b g o (i + 1) j s.val.1 s.val.2) (fun s => s.val.1) ⟨(i, y1), by simp only []; omega, Nat.le_refl _, p1, InsAt.start p2⟩ ?_ (fun s => ?_)
      ·unfold paL
       refine Weak.list ?_ ?_; (all_goals simp (disch := omega) only [AllF, AllL, x11, j11, z11, exists_eq_left', go_sem, seval, pnP, pnM, pnP1, pnM1]); (all_goals (repeat' (with_reducible apply And.intro))); (all_goals try (first | exact q9 rfl | (refine q12 ?_; omega) | (refine q9 ?_; simp; done)))
      obtain ⟨⟨k, z⟩, hk1, hk2, hpe, hin⟩ := s
      unfold paL
      simp only [] at hk1 hk2 hpe hin
      by_cases hk0 : k = 0
      ·subst hk0
       (repeat (first | apply j0 | refine q8 rfl ?_ | refine z8 rfl ?_ | apply x7 | (refine j4 fun K hK => ?_) | (refine x5 fun K hK => ?_) | ((first | apply j6 | apply z7 | ((first | refine x4 (hK _ ?_) | refine x6 (hK _ _ j5 ?_)); clear hK K)); (first | show AWP _ _ _ _ _ | ((try simp only [j7]); first | show loopQ _ _ _ _ _ _ | show cutQ _ _ _ _ | show AWP _ _ _ _ _))) | ((first | refine x8 [] rfl ?_ | refine j8 [] rfl ?_); simp (disch := omega) only [go_sem, seval, pnP, pnM, pnP1, pnM1]; (repeat (first | refine ⟨by omega, ?_⟩ | refine ⟨True.intro, ?_⟩)))))
       (show cutQ _ _ .normal _); refine x17 (⟨z, hpe, hin.done hk2 (.inl (by omega))⟩) ?_
       unfold paS
       refine Weak.list ?_ ?_; (all_goals simp (disch := omega) only [AllF, AllL, x11, j11, z11, exists_eq_left', go_sem, seval, pnP, pnM, pnP1, pnM1]); (all_goals (repeat' (with_reducible apply And.intro))); (all_goals try (first | exact q9 rfl | (refine q12 ?_; omega) | (refine q9 ?_; simp; done)))
      ·obtain ⟨k, rfl⟩ : ∃ m, k = m + 1 := ⟨k - 1, by omega⟩
       have r1 := z15 z (k + 1)
       have r2 := z15 z k
       obtain ⟨cc, cl⟩ := lt1 z (k + 1) k hpe (by omega) (by omega)
       have hbz := hbl.pe hpe
       generalize c (z (k + 1)) (z k) = c0 at cc cl
       by_cases hlt : c0 < 0
       ·(repeat (first | apply j0 | refine q8 rfl ?_ | refine z8 rfl ?_ | apply x7 | (refine j4 fun K hK => ?_) | (refine x5 fun K hK => ?_) | ((first | apply j6 | apply z7 | ((first | refine x4 (hK _ ?_) | refine x6 (hK _ _ j5 ?_)); clear hK K)); (first | show AWP _ _ _ _ _ | ((try simp only [j7]); first | show loopQ _ _ _ _ _ _ | show cutQ _ _ _ _ | show AWP _ _ _ _ _))) | ((first | refine j10 rfl rfl rfl ?_ | refine q11 rfl rfl rfl ?_); simp (disch := omega) only [go_sem, seval, pnP, pnM, pnP1, pnM1, r1, r2]; (first | refine ⟨_, cc, ?_⟩)) | ((first | refine x8 [] rfl ?_ | refine j8 [] rfl ?_); simp (disch := omega) only [go_sem, seval, pnP, pnM, pnP1, pnM1, r1, r2]; (repeat (first | refine ⟨by omega, ?_⟩ | refine ⟨True.intro, ?_⟩)))))
        have hak : a ≤ k := by
         refine Nat.le_of_not_lt fun hlt2 => ?_
         have ea : a = k + 1 := by omega
         have := hbz (k + 1) (by omega) (by omega) (by omega)
         rw [ea, Nat.add_sub_cancel] at this
         have := cl.1 hlt
         omega
        refine ⟨⟨(k, swap2 z k), by simp only []; omega, by simp only []; omega, hpe.trans (by rw [z56]; exact PE.swp (by omega) (by omega) (by omega) (by omega)), hin.step (by omega) (by omega) (cl.1 hlt)⟩, by simp only []; omega, ?_⟩
        refine Weak.list ?_ ?_; (all_goals simp (disch := omega) only [AllF, AllL, x11, j11, z11, exists_eq_left', go_sem, seval, pnP, pnM, pnP1, pnM1, r1, r2]); (all_goals (repeat' (with_reducible apply And.intro))); (all_goals try (first | exact q9 rfl | (refine q12 ?_; omega) | (refine q9 ?_; simp; done)))
        exact x19 rfl rfl (fun m _ => (j22 z (k + 1) k m).trans (by rw [z56]))
       ·(repeat (first | apply j0 | refine q8 rfl ?_ | refine z8 rfl ?_ | apply x7 | (refine j4 fun K hK => ?_) | (refine x5 fun K hK => ?_) | ((first | apply j6 | apply z7 | ((first | refine x4 (hK _ ?_) | refine x6 (hK _ _ j5 ?_)); clear hK K)); (first | show AWP _ _ _ _ _ | ((try simp only [j7]); first | show loopQ _ _ _ _ _ _ | show cutQ _ _ _ _ | show AWP _ _ _ _ _))) | ((first | refine j10 rfl rfl rfl ?_ | refine q11 rfl rfl rfl ?_); simp (disch := omega) only [go_sem, seval, pnP, pnM, pnP1, pnM1, r1, r2]; (first | refine ⟨_, cc, ?_⟩)) | ((first | refine x8 [] rfl ?_ | refine j8 [] rfl ?_); simp (disch := omega) only [go_sem, seval, pnP, pnM, pnP1, pnM1, r1, r2]; (repeat (first | refine ⟨by omega, ?_⟩ | refine ⟨True.intro, ?_⟩)))))
        (show cutQ _ _ .normal _); refine x17 (⟨z, hpe, hin.done hk2 (.inr (by have : ¬ key (z (k + 1)) < key (z k) := fun e => hlt (cl.2 e); rw [Nat.add_sub_cancel]; omega))⟩) ?_
        unfold paS
        refine Weak.list ?_ ?_; (all_goals simp (disch := omega) only [AllF, AllL, x11, j11, z11, exists_eq_left', go_sem, seval, pnP, pnM, pnP1, pnM1, r1, r2]); (all_goals (repeat' (with_reducible apply And.intro))); (all_goals try (first | exact q9 rfl | (refine q12 ?_; omega) | (refine q9 ?_; simp; done)))
     ·(repeat (first | apply j0 | refine q8 rfl ?_ | refine z8 rfl ?_ | apply x7 | (refine j4 fun K hK => ?_) | (refine x5 fun K hK => ?_) | ((first | apply j6 | apply z7 | ((first | refine x4 (hK _ ?_) | refine x6 (hK _ _ j5 ?_)); clear hK K)); (first | show AWP _ _ _ _ _ | ((try simp only [j7]); first | show loopQ _ _ _ _ _ _ | show cutQ _ _ _ _ | show AWP _ _ _ _ _))) | ((first | refine x8 [] rfl ?_ | refine j8 [] rfl ?_); simp (disch := omega) only [go_sem, seval, pnP, pnM, pnP1, pnM1]; (repeat (first | refine ⟨by omega, ?_⟩ | refine ⟨True.intro, ?_⟩)))))
      (show cutQ _ _ .normal _); refine x17 (⟨y1, p1, fun p q h1 h2 h3 => by omega⟩) ?_
      unfold paS
      refine Weak.list ?_ ?_; (all_goals simp (disch := omega) only [AllF, AllL, x11, j11, z11, exists_eq_left', go_sem, seval, pnP, pnM, pnP1, pnM1]); (all_goals (repeat' (with_reducible apply And.intro))); (all_goals try (first | exact q9 rfl | (refine q12 ?_; omega) | (refine q9 ?_; simp; done)))
    rintro ⟨z, hz, hz2⟩
    unfold paS
    by_cases h2 : b - (i + 1) ≥ 2
    ·(repeat (first | apply j0 | refine q8 rfl ?_ | refine z8 rfl ?_ | apply x7 | (refine j4 fun K hK => ?_) | (refine x5 fun K hK => ?_) | ((first | apply j6 | apply z7 | ((first | refine x4 (hK _ ?_) | refine x6 (hK _ _ j5 ?_)); clear hK K)); (first | show AWP _ _ _ _ _ | ((try simp only [j7]); first | show loopQ _ _ _ _ _ _ | show cutQ _ _ _ _ | show AWP _ _ _ _ _))) | ((first | refine x8 [] rfl ?_ | refine j8 [] rfl ?_); simp (disch := omega) only [go_sem, seval, pnP, pnM, pnP1, pnM1]; (repeat (first | refine ⟨by omega, ?_⟩ | refine ⟨True.intro, ?_⟩)))))
     refine x13 (fun s : {s : Nat × (Nat → Nat) // i + 2 ≤ s.1 ∧ s.1 ≤ b ∧ PE a b x s.2 ∧ Srt key a (i + 1) s.2} => paR n gen a b g o (i + 1) j s.val.1 s.val.2) (fun s => b - s.val.1) ⟨(i + 2, z), Nat.le_refl _, by simp only []; omega, hz, hz2⟩ ?_ (fun s => ?_)
     ·unfold paR
      refine Weak.list ?_ ?_; (all_goals simp (disch := omega) only [AllF, AllL, x11, j11, z11, exists_eq_left', go_sem, seval, pnP, pnM, pnP1, pnM1]); (all_goals (repeat' (with_reducible apply And.intro))); (all_goals try (first | exact q9 rfl | (refine q12 ?_; omega) | (refine q9 ?_; simp; done)))
     obtain ⟨⟨k, u⟩, hk1, hk2, hpe, hst⟩ := s
     unfold paR
     simp only [] at hk1 hk2 hpe hst
     by_cases hkb : k < b
     ·obtain ⟨k, rfl⟩ : ∃ m, k = m + 1 := ⟨k - 1, by omega⟩
      have r1 := z15 u (k + 1)
      have r2 := z15 u k
      obtain ⟨cc, cl⟩ := lt1 u (k + 1) k hpe (by omega) (by omega)
      generalize c (u (k + 1)) (u k) = c0 at cc cl
      by_cases hlt : c0 < 0
      ·(repeat (first | apply j0 | refine q8 rfl ?_ | refine z8 rfl ?_ | apply x7 | (refine j4 fun K hK => ?_) | (refine x5 fun K hK => ?_) | ((first | apply j6 | apply z7 | ((first | refine x4 (hK _ ?_) | refine x6 (hK _ _ j5 ?_)); clear hK K)); (first | show AWP _ _ _ _ _ | ((try simp only [j7]); first | show loopQ _ _ _ _ _ _ | show cutQ _ _ _ _ | show AWP _ _ _ _ _))) | ((first | refine j10 rfl rfl rfl ?_ | refine q11 rfl rfl rfl ?_); simp (disch := omega) only [go_sem, seval, pnP, pnM, pnP1, pnM1, r1, r2]; (first | refine ⟨_, cc, ?_⟩)) | ((first | refine x8 [] rfl ?_ | refine j8 [] rfl ?_); simp (disch := omega) only [go_sem, seval, pnP, pnM, pnP1, pnM1, r1, r2]; (repeat (first | refine ⟨by omega, ?_⟩ | refine ⟨True.intro, ?_⟩)))))
       refine ⟨⟨(k + 2, swp u (k + 1) k), by simp only []; omega, by simp only []; omega, hpe.trans (PE.swp (by omega) (by omega) (by omega) (by omega)), fun p q h1 h2 h3 => by
        simp only []
        rw [q21 _ (by omega) (by omega), q21 _ (by omega) (by omega)]; exact hst p q h1 h2 h3⟩, by simp only []; omega, ?_⟩
       refine Weak.list ?_ ?_; (all_goals simp (disch := omega) only [AllF, AllL, x11, j11, z11, exists_eq_left', go_sem, seval, pnP, pnM, pnP1, pnM1, r1, r2]); (all_goals (repeat' (with_reducible apply And.intro))); (all_goals try (first | exact q9 rfl | (refine q12 ?_; omega) | (refine q9 ?_; simp; done)))
       exact x19 rfl rfl (fun m _ => j22 u (k + 1) k m)
      ·(repeat (first | apply j0 | refine q8 rfl ?_ | refine z8 rfl ?_ | apply x7 | (refine j4 fun K hK => ?_) | (refine x5 fun K hK => ?_) | ((first | apply j6 | apply z7 | ((first | refine x4 (hK _ ?_) | refine x6 (hK _ _ j5 ?_)); clear hK K)); (first | show AWP _ _ _ _ _ | ((try simp only [j7]); first | show loopQ _ _ _ _ _ _ | show cutQ _ _ _ _ | show AWP _ _ _ _ _))) | ((first | refine j10 rfl rfl rfl ?_ | refine q11 rfl rfl rfl ?_); simp (disch := omega) only [go_sem, seval, pnP, pnM, pnP1, pnM1, r1, r2]; (first | refine ⟨_, cc, ?_⟩)) | ((first | refine x8 [] rfl ?_ | refine j8 [] rfl ?_); simp (disch := omega) only [go_sem, seval, pnP, pnM, pnP1, pnM1, r1, r2]; (repeat (first | refine ⟨by omega, ?_⟩ | refine ⟨True.intro, ?_⟩)))))
       refine ⟨⟨(i + 1, j + 1, u), by simp only []; omega, ⟨by omega, by omega, hpe, hst⟩⟩, by simp only []; omega, ?_⟩
       refine Weak.list ?_ ?_; (all_goals simp (disch := omega) only [AllF, AllL, x11, j11, z11, exists_eq_left', go_sem, seval, pnP, pnM, pnP1, pnM1, r1, r2]); (all_goals (repeat' (with_reducible apply And.intro))); (all_goals try (first | exact q9 rfl | (refine q12 ?_; omega) | (refine q9 ?_; simp; done)))
     ·(repeat (first | apply j0 | refine q8 rfl ?_ | refine z8 rfl ?_ | apply x7 | (refine j4 fun K hK => ?_) | (refine x5 fun K hK => ?_) | ((first | apply j6 | apply z7 | ((first | refine x4 (hK _ ?_) | refine x6 (hK _ _ j5 ?_)); clear hK K)); (first | show AWP _ _ _ _ _ | ((try simp only [j7]); first | show loopQ _ _ _ _ _ _ | show cutQ _ _ _ _ | show AWP _ _ _ _ _))) | ((first | refine x8 [] rfl ?_ | refine j8 [] rfl ?_); simp (disch := omega) only [go_sem, seval, pnP, pnM, pnP1, pnM1]; (repeat (first | refine ⟨by omega, ?_⟩ | refine ⟨True.intro, ?_⟩)))))
      refine ⟨⟨(i + 1, j + 1, u), by simp only []; omega, ⟨by omega, by omega, hpe, hst⟩⟩, by simp only []; omega, ?_⟩
      refine Weak.list ?_ ?_; (all_goals simp (disch := omega) only [AllF, AllL, x11, j11, z11, exists_eq_left', go_sem, seval, pnP, pnM, pnP1, pnM1]); (all_goals (repeat' (with_reducible apply And.intro))); (all_goals try (first | exact q9 rfl | (refine q12 ?_; omega) | (refine q9 ?_; simp; done)))
    ·(repeat (first | apply j0 | refine q8 rfl ?_ | refine z8 rfl ?_ | apply x7 | (refine j4 fun K hK => ?_) | (refine x5 fun K hK => ?_) | ((first | apply j6 | apply z7 | ((first | refine x4 (hK _ ?_) | refine x6 (hK _ _ j5 ?_)); clear hK K)); (first | show AWP _ _ _ _ _ | ((try simp only [j7]); first | show loopQ _ _ _ _ _ _ | show cutQ _ _ _ _ | show AWP _ _ _ _ _))) | ((first | refine x8 [] rfl ?_ | refine j8 [] rfl ?_); simp (disch := omega) only [go_sem, seval, pnP, pnM, pnP1, pnM1]; (repeat (first | refine ⟨by omega, ?_⟩ | refine ⟨True.intro, ?_⟩)))))
     refine ⟨⟨(i + 1, j + 1, z), by simp only []; omega, ⟨by omega, by omega, hz, hz2⟩⟩, by simp only []; omega, ?_⟩
     refine Weak.list ?_ ?_; (all_goals simp (disch := omega) only [AllF, AllL, x11, j11, z11, exists_eq_left', go_sem, seval, pnP, pnM, pnP1, pnM1]); (all_goals (repeat' (with_reducible apply And.intro))); (all_goals try (first | exact q9 rfl | (refine q12 ?_; omega) | (refine q9 ?_; simp; done)))
 ·(repeat (first | apply j0 | refine q8 rfl ?_ | refine z8 rfl ?_ | apply x7 | (refine j4 fun K hK => ?_) | (refine x5 fun K hK => ?_) | ((first | apply j6 | apply z7 | ((first | refine x4 (hK _ ?_) | refine x6 (hK _ _ j5 ?_)); clear hK K)); (first | show AWP _ _ _ _ _ | ((try simp only [j7]); first | show loopQ _ _ _ _ _ _ | show cutQ _ _ _ _ | show AWP _ _ _ _ _))) | ((first | refine x8 [] rfl ?_ | refine j8 [] rfl ?_); simp (disch := omega) only [go_sem, seval, pnP, pnM, pnP1, pnM1]; (repeat (first | refine ⟨by omega, ?_⟩ | refine ⟨True.intro, ?_⟩)))))
  exact q10 (q20 [_] [(1000, _)] ⟨rfl, trivial⟩ (by simp [AL.look] <;> first | rfl | exact ⟨rfl, rfl⟩) ⟨⟨(false, y), hs.pe, fun h => by cases h⟩, rfl, rfl⟩)
structure PD (key : Nat → Int) (n N a b : Nat) (x : Nat → Nat) (a' b' : Nat) (y : Nat → Nat) : Prop where
 h1 : a ≤ a'
 h2 : a' ≤ b'
 h3 : b' ≤ b
 pe : PE a b x y
 bl : Blw key a' b' y
 fin : ∀ z, PE a' b' y z → Srt key a' b' z → Srt key a b z
theorem PD.pe' {key : Nat → Int} {n N a b a' b' : Nat} {x y z : Nat → Nat} (h : PD key n N a b x a' b' y) (hp : PE a' b' y z) : PD key n N a b x a' b' z :=
 ⟨h.h1, h.h2, h.h3, h.pe.trans (hp.widen h.h1 h.h2 h.h3), h.bl.pe hp, fun u h1 h2 => h.fin u (hp.trans h1) h2⟩
theorem PD.left {key : Nat → Int} {n N a b a' b' m : Nat} {x y z : Nat → Nat} (h : PD key n N a b x a' b' y) (hm : a' ≤ m) (hm2 : m < b') (hp : Prt key a' m b' y) (h1 : PE a' m y z) (h2 : Srt key a' m z) : PD key n N a b x (m + 1) b' z := by
 have hpz := hp.pe h1 (.inl ⟨Nat.le_refl _, hm, Nat.le_refl _⟩)
 have g1 := h.h1; have g3 := h.h3
 refine ⟨by omega, by omega, g3, h.pe.trans (h1.widen g1 hm (by omega)), fun k k0 k1 k2 => by rw [Nat.add_sub_cancel]; exact hpz.hi k (by omega) k2, fun u u1 u2 => ?_⟩
 refine h.fin u ((h1.widen (Nat.le_refl _) hm (by omega)).trans (u1.widen (by omega) (by omega) (Nat.le_refl _))) ?_
 refine (hpz.pe u1 (.inr ⟨by omega, by omega, Nat.le_refl _⟩)).srt (fun p q q1 q2 q3 => ?_) u2 hm
 rw [u1.out p (by omega), u1.out q (by omega)]
 exact h2 p q q1 q2 q3
theorem PD.right {key : Nat → Int} {n N a b a' b' m : Nat} {x y z : Nat → Nat} (h : PD key n N a b x a' b' y) (hm : a' ≤ m) (hm2 : m < b') (hp : Prt key a' m b' y) (h1 : PE (m + 1) b' y z) (h2 : Srt key (m + 1) b' z) : PD key n N a b x a' m z := by
 have hpz := hp.pe h1 (.inr ⟨by omega, by omega, Nat.le_refl _⟩)
 have g1 := h.h1; have g3 := h.h3
 refine ⟨g1, hm, by omega, h.pe.trans (h1.widen (by omega) (by omega) g3), fun k k0 k1 k2 => ?_, fun u u1 u2 => ?_⟩
 ·rw [h1.out (a' - 1) (by omega), h1.out k (by omega)]
  exact h.bl k k0 k1 (by omega)
 ·refine h.fin u ((h1.widen (by omega) (by omega) (Nat.le_refl _)).trans (u1.widen (Nat.le_refl _) hm (by omega))) ?_
  refine (hpz.pe u1 (.inl ⟨Nat.le_refl _, hm, Nat.le_refl _⟩)).srt u2 (fun p q q1 q2 q3 => ?_) hm
  rw [u1.out p (by omega), u1.out q (by omega)]
  exact h2 p q q1 q2 q3
def pdS (n gen : Nat) (g : FuncId) (o : PV) (a b : Nat) (lim : Int) (wb wp : Bool) (y : Nat → Nat) : ASt :=
 ⟨[(11, .p (.d (.v (.bool wp)))), (10, .p (.d (.v (.bool wb)))), (4, .p (.fn (.func g) [o] [])), (3, .p (.d (.v (.int .i64 lim)))), (2, .p (.d (.v (.int .i64 (b : Int))))), (1, .p (.d (.v (.int .i64 (a : Int))))), (0, .ow 1000 gen 1 n)],
  [(1000, .own 3 1 n gen (rowN y))]⟩
def pdT (n gen : Nat) (g : FuncId) (o : PV) (a b : Nat) (lim : Int) (wb wp : Bool) (p : Nat) (hint : Int) (y : Nat → Nat) : ASt :=
 ⟨[(14, .p (.d (.v (.int .i64 hint)))), (13, .p (.d (.v (.int .i64 (p : Int))))), (12, .p (.d (.v (.int .i64 ((b : Int) - a))))), (11, .p (.d (.v (.bool wp)))), (10, .p (.d (.v (.bool wb)))), (4, .p (.fn (.func g) [o] [])), (3, .p (.d (.v (.int .i64 lim)))), (2, .p (.d (.v (.int .i64 (b : Int))))), (1, .p (.d (.v (.int .i64 (a : Int))))), (0, .ow 1000 gen 1 n)],
  [(1000, .own 3 1 n gen (rowN y))]⟩
def pdM (n gen : Nat) (g : FuncId) (o : PV) (a b : Nat) (lim : Int) (wb wp : Bool) (y : Nat → Nat) : ASt :=
 ⟨[(12, .p (.d (.v (.int .i64 ((b : Int) - a))))), (11, .p (.d (.v (.bool wp)))), (10, .p (.d (.v (.bool wb)))), (4, .p (.fn (.func g) [o] [])), (3, .p (.d (.v (.int .i64 lim)))), (2, .p (.d (.v (.int .i64 (b : Int))))), (1, .p (.d (.v (.int .i64 (a : Int))))), (0, .ow 1000 gen 1 n)],
  [(1000, .own 3 1 n gen (rowN y))]⟩
set_option maxRecDepth 100000 in
set_option maxHeartbeats 8000000 in
theorem pdq_c {key : Nat → Int} {c : Nat → Nat → Int} {g : FuncId} {o : PV} {N : Nat} (hc : CmpN Tryz.prog g o N key c) (n gen : Nat) (hn : n ≤ 1099511627776) : ∀ (k : Nat) (x : Nat → Nat) (a b : Nat) (ai bi lim : Int), b - a ≤ k → ai = a → bi = b → a ≤ b → b ≤ n → Dom n N x → Blw key a b x → 0 ≤ lim → lim ≤ 1000 →
  MCalls Tryz.prog 141 [.ow 1000 gen 1 n, .p (.d (.v (.int .i64 ai))), .p (.d (.v (.int .i64 bi))), .p (.d (.v (.int .i64 lim))), .p (.fn (.func g) [o] [])] [(1000, .own 3 1 n gen (rowN x))]
   (fun rs M => ∃ y : {y : Nat → Nat // PE a b x y ∧ Srt key a b y}, rs = [] ∧ M = [(1000, .own 3 1 n gen (rowN y.val))]) := by
 intro k
 induction k using Nat.strongRecOn with
 | _ k ih =>
 intro x a b ai bi lim0 hk ha' hb' hab hb hx hbl hl0 hl1
 subst ha' hb'
 refine z19 Tryz.func141 rfl (by decide +kernel) (by rw [Tryz.ntmps141]; simp) (fun l X h => by simp only [AL.look] at h; (repeat' split at h); all_goals first | omega | cases h) ?_; rw [Tryz.ntmps141]; simp only [frA]
 (repeat (first | apply j0 | refine q8 rfl ?_ | refine z8 rfl ?_ | apply x7 | (refine j4 fun K hK => ?_) | (refine x5 fun K hK => ?_) | ((first | apply j6 | apply z7 | ((first | refine x4 (hK _ ?_) | refine x6 (hK _ _ j5 ?_)); clear hK K)); (first | show AWP _ _ _ _ _ | ((try simp only [j7]); first | show loopQ _ _ _ _ _ _ | show cutQ _ _ _ _ | show AWP _ _ _ _ _))) | ((first | refine x8 [] rfl ?_ | refine j8 [] rfl ?_); simp (disch := omega) only [go_sem, seval, pnP, pnM, pnP1, pnM1]; (repeat (first | refine ⟨by omega, ?_⟩ | refine ⟨True.intro, ?_⟩)))))
 refine x13 (fun s : {s : Nat × Nat × Int × Bool × Bool × (Nat → Nat) // 0 ≤ s.2.2.1 ∧ s.2.2.1 ≤ 1000 ∧ PD key n N a b x s.1 s.2.1 s.2.2.2.2.2} => pdS n gen g o s.val.1 s.val.2.1 s.val.2.2.1 s.val.2.2.2.1 s.val.2.2.2.2.1 s.val.2.2.2.2.2) (fun s => s.val.2.1 - s.val.1) ⟨(a, b, lim0, true, true, x), hl0, hl1, ⟨Nat.le_refl _, hab, Nat.le_refl _, PE.refl _ _ _, hbl, fun z _ h => h⟩⟩ ?_ (fun s => ?_)
 ·unfold pdS
  refine Weak.list ?_ ?_; (all_goals simp (disch := omega) only [AllF, AllL, x11, j11, z11, exists_eq_left', go_sem, seval, pnP, pnM, pnP1, pnM1]); (all_goals (repeat' (with_reducible apply And.intro))); (all_goals try (first | exact q9 rfl | (refine q12 ?_; omega) | (refine q9 ?_; simp; done)))
 obtain ⟨⟨a1, b1, lim, wb, wp, y⟩, l0, l1, hs⟩ := s
 unfold pdS
 simp only [] at l0 l1 hs
 have g1 := hs.h1; have g2 := hs.h2; have g3 := hs.h3
 have dy := hx.pe hs.pe hab hb
 by_cases h12 : b1 - a1 ≤ 12
 ·(repeat (first | apply j0 | refine q8 rfl ?_ | refine z8 rfl ?_ | apply x7 | (refine j4 fun K hK => ?_) | (refine x5 fun K hK => ?_) | ((first | apply j6 | apply z7 | ((first | refine x4 (hK _ ?_) | refine x6 (hK _ _ j5 ?_)); clear hK K)); (first | show AWP _ _ _ _ _ | ((try simp only [j7]); first | show loopQ _ _ _ _ _ _ | show cutQ _ _ _ _ | show AWP _ _ _ _ _))) | ((first | refine x8 [] rfl ?_ | refine j8 [] rfl ?_); simp (disch := omega) only [go_sem, seval, pnP, pnM, pnP1, pnM1]; (repeat (first | refine ⟨by omega, ?_⟩ | refine ⟨True.intro, ?_⟩)))))
  (refine j17 (z17 [(1000, 1000)] rfl rfl rfl rfl rfl rfl (insN_c hc y n gen a1 b1 a1 b1 rfl rfl g2 (by omega) hn dy) (fun _ => rfl) (j13 (by repeat (first | exact trivial | refine ⟨rfl, ?_⟩)) (by kernel_rfl)) (fun _ => (j13 (by repeat (first | exact trivial | refine ⟨rfl, ?_⟩)) (by kernel_rfl)))) ?_); rintro ⟨z,hz,hz2⟩; simp (disch := omega) only [go_sem, seval, pnP, pnM, pnP1, pnM1]
  (repeat (first | apply j0 | refine q8 rfl ?_ | refine z8 rfl ?_ | apply x7 | (refine j4 fun K hK => ?_) | (refine x5 fun K hK => ?_) | ((first | apply j6 | apply z7 | ((first | refine x4 (hK _ ?_) | refine x6 (hK _ _ j5 ?_)); clear hK K)); (first | show AWP _ _ _ _ _ | ((try simp only [j7]); first | show loopQ _ _ _ _ _ _ | show cutQ _ _ _ _ | show AWP _ _ _ _ _))) | ((first | refine x8 [] rfl ?_ | refine j8 [] rfl ?_); simp (disch := omega) only [go_sem, seval, pnP, pnM, pnP1, pnM1]; (repeat (first | refine ⟨by omega, ?_⟩ | refine ⟨True.intro, ?_⟩)))))
  (first | (refine x4 (hK _ ?_); refine And.left (z14 (l := 1000) rfl rfl ?_)) | (refine z7 ?_; refine And.left (z14 (l := 1000) rfl rfl ?_)) | (refine j6 ?_; refine And.left (z14 (l := 1000) rfl rfl ?_)) | (refine q10 ?_; refine And.right (z14 (l := 1000) rfl rfl ?_)) | refine And.left (z14 (l := 1000) rfl rfl ?_))
  exact ⟨⟨z, hs.pe.trans (hz.widen g1 g2 g3), hs.fin z hz hz2⟩, rfl, rfl⟩
 by_cases hlim : lim = 0
 ·subst hlim
  (repeat (first | apply j0 | refine q8 rfl ?_ | refine z8 rfl ?_ | apply x7 | (refine j4 fun K hK => ?_) | (refine x5 fun K hK => ?_) | ((first | apply j6 | apply z7 | ((first | refine x4 (hK _ ?_) | refine x6 (hK _ _ j5 ?_)); clear hK K)); (first | show AWP _ _ _ _ _ | ((try simp only [j7]); first | show loopQ _ _ _ _ _ _ | show cutQ _ _ _ _ | show AWP _ _ _ _ _))) | ((first | refine x8 [] rfl ?_ | refine j8 [] rfl ?_); simp (disch := omega) only [go_sem, seval, pnP, pnM, pnP1, pnM1]; (repeat (first | refine ⟨by omega, ?_⟩ | refine ⟨True.intro, ?_⟩)))))
  (refine j17 (z17 [(1000, 1000)] rfl rfl rfl rfl rfl rfl (heapN_c hc y n gen a1 b1 a1 b1 rfl rfl (by omega) (by omega) hn dy) (fun _ => rfl) (j13 (by repeat (first | exact trivial | refine ⟨rfl, ?_⟩)) (by kernel_rfl)) (fun _ => (j13 (by repeat (first | exact trivial | refine ⟨rfl, ?_⟩)) (by kernel_rfl)))) ?_); rintro ⟨z,hz,hz2⟩; simp (disch := omega) only [go_sem, seval, pnP, pnM, pnP1, pnM1]
  (repeat (first | apply j0 | refine q8 rfl ?_ | refine z8 rfl ?_ | apply x7 | (refine j4 fun K hK => ?_) | (refine x5 fun K hK => ?_) | ((first | apply j6 | apply z7 | ((first | refine x4 (hK _ ?_) | refine x6 (hK _ _ j5 ?_)); clear hK K)); (first | show AWP _ _ _ _ _ | ((try simp only [j7]); first | show loopQ _ _ _ _ _ _ | show cutQ _ _ _ _ | show AWP _ _ _ _ _))) | ((first | refine x8 [] rfl ?_ | refine j8 [] rfl ?_); simp (disch := omega) only [go_sem, seval, pnP, pnM, pnP1, pnM1]; (repeat (first | refine ⟨by omega, ?_⟩ | refine ⟨True.intro, ?_⟩)))))
  (first | (refine x4 (hK _ ?_); refine And.left (z14 (l := 1000) rfl rfl ?_)) | (refine z7 ?_; refine And.left (z14 (l := 1000) rfl rfl ?_)) | (refine j6 ?_; refine And.left (z14 (l := 1000) rfl rfl ?_)) | (refine q10 ?_; refine And.right (z14 (l := 1000) rfl rfl ?_)) | refine And.left (z14 (l := 1000) rfl rfl ?_))
  exact ⟨⟨z, hs.pe.trans (hz.widen g1 g2 g3), hs.fin z hz hz2⟩, rfl, rfl⟩
 have qlim : (lim == 0) = false := z16 hlim
 (repeat ((fail_if_success (show AWP _ _ (.region 7 _ _) _ _)); first | apply j0 | refine q8 rfl ?_ | refine z8 rfl ?_ | apply x7 | (refine j4 fun K hK => ?_) | (refine x5 fun K hK => ?_) | ((first | apply j6 | apply z7 | ((first | refine x4 (hK _ ?_) | refine x6 (hK _ _ j5 ?_)); clear hK K)); (first | show AWP _ _ _ _ _ | ((try simp only [j7]); first | show loopQ _ _ _ _ _ _ | show cutQ _ _ _ _ | show AWP _ _ _ _ _))) | ((first | refine x8 [] rfl ?_ | refine j8 [] rfl ?_); simp (disch := omega) only [go_sem, seval, pnP, pnM, pnP1, pnM1, qlim]; (repeat (first | refine ⟨by omega, ?_⟩ | refine ⟨True.intro, ?_⟩)))))
 refine q18 (A' := pdM n gen g o a1 b1 lim wb wp y) ?_ ?_
 ·unfold pdM
  refine Weak.list ?_ ?_; (all_goals simp (disch := omega) only [AllF, AllL, x11, j11, z11, exists_eq_left', go_sem, seval, pnP, pnM, pnP1, pnM1, qlim]); (all_goals (repeat' (with_reducible apply And.intro))); (all_goals try (first | exact q9 rfl | (refine q12 ?_; omega) | (refine q9 ?_; simp; done)))
 unfold pdM
 refine j32 (fun s : {s : Int × (Nat → Nat) // 0 ≤ s.1 ∧ s.1 ≤ 1000 ∧ PD key n N a b x a1 b1 s.2} => pdM n gen g o a1 b1 s.val.1 wb wp s.val.2) ?_ ?_
 ·cases wb
  ·(repeat (first | apply j0 | refine q8 rfl ?_ | refine z8 rfl ?_ | apply x7 | (refine j4 fun K hK => ?_) | (refine x5 fun K hK => ?_) | ((first | apply j6 | apply z7 | ((first | refine x4 (hK _ ?_) | refine x6 (hK _ _ j5 ?_)); clear hK K)); (first | show AWP _ _ _ _ _ | ((try simp only [j7]); first | show loopQ _ _ _ _ _ _ | show cutQ _ _ _ _ | show AWP _ _ _ _ _))) | ((first | refine x8 [] rfl ?_ | refine j8 [] rfl ?_); simp (disch := omega) only [go_sem, seval, pnP, pnM, pnP1, pnM1]; (repeat (first | refine ⟨by omega, ?_⟩ | refine ⟨True.intro, ?_⟩)))))
   (refine j17 (z17 [(1000, 1000)] rfl rfl rfl rfl rfl rfl (break_c (.fn (.func g) [o] []) y n gen a1 b1 (by omega) (by omega) hn) (fun _ => rfl) (j13 (by repeat (first | exact trivial | refine ⟨rfl, ?_⟩)) (by kernel_rfl)) (fun _ => (j13 (by repeat (first | exact trivial | refine ⟨rfl, ?_⟩)) (by kernel_rfl)))) ?_); rintro ⟨z,hz⟩; simp (disch := omega) only [go_sem, seval, pnP, pnM, pnP1, pnM1]
   (repeat (first | apply j0 | refine q8 rfl ?_ | refine z8 rfl ?_ | apply x7 | (refine j4 fun K hK => ?_) | (refine x5 fun K hK => ?_) | ((first | apply j6 | apply z7 | ((first | refine x4 (hK _ ?_) | refine x6 (hK _ _ j5 ?_)); clear hK K)); (first | show AWP _ _ _ _ _ | ((try simp only [j7]); first | show loopQ _ _ _ _ _ _ | show cutQ _ _ _ _ | show AWP _ _ _ _ _))) | ((first | refine x8 [] rfl ?_ | refine j8 [] rfl ?_); simp (disch := omega) only [go_sem, seval, pnP, pnM, pnP1, pnM1]; (repeat (first | refine ⟨by omega, ?_⟩ | refine ⟨True.intro, ?_⟩)))))
   (show cutQ _ _ .normal _); refine x17 (⟨(lim - 1, z), by simp only []; omega, by simp only []; omega, hs.pe' hz⟩) ?_
   unfold pdM
   refine Weak.list ?_ ?_; (all_goals simp (disch := omega) only [AllF, AllL, x11, j11, z11, exists_eq_left', go_sem, seval, pnP, pnM, pnP1, pnM1]); (all_goals (repeat' (with_reducible apply And.intro))); (all_goals try (first | exact q9 rfl | (refine q12 ?_; omega) | (refine q9 ?_; simp; done)))
  ·(repeat (first | apply j0 | refine q8 rfl ?_ | refine z8 rfl ?_ | apply x7 | (refine j4 fun K hK => ?_) | (refine x5 fun K hK => ?_) | ((first | apply j6 | apply z7 | ((first | refine x4 (hK _ ?_) | refine x6 (hK _ _ j5 ?_)); clear hK K)); (first | show AWP _ _ _ _ _ | ((try simp only [j7]); first | show loopQ _ _ _ _ _ _ | show cutQ _ _ _ _ | show AWP _ _ _ _ _))) | ((first | refine x8 [] rfl ?_ | refine j8 [] rfl ?_); simp (disch := omega) only [go_sem, seval, pnP, pnM, pnP1, pnM1]; (repeat (first | refine ⟨by omega, ?_⟩ | refine ⟨True.intro, ?_⟩)))))
   (show cutQ _ _ .normal _); refine x17 (⟨(lim, y), l0, l1, hs⟩) ?_
   unfold pdM
   refine Weak.list ?_ ?_; (all_goals simp (disch := omega) only [AllF, AllL, x11, j11, z11, exists_eq_left', go_sem, seval, pnP, pnM, pnP1, pnM1]); (all_goals (repeat' (with_reducible apply And.intro))); (all_goals try (first | exact q9 rfl | (refine q12 ?_; omega) | (refine q9 ?_; simp; done)))
 rintro ⟨⟨lim, y⟩, l0, l1, hs⟩
 unfold pdM
 simp only [] at l0 l1 hs ⊢
 have dy := hx.pe hs.pe hab hb
 (repeat (first | apply j0 | refine q8 rfl ?_ | refine z8 rfl ?_ | apply x7 | (refine j4 fun K hK => ?_) | (refine x5 fun K hK => ?_) | ((first | apply j6 | apply z7 | ((first | refine x4 (hK _ ?_) | refine x6 (hK _ _ j5 ?_)); clear hK K)); (first | show AWP _ _ _ _ _ | ((try simp only [j7]); first | show loopQ _ _ _ _ _ _ | show cutQ _ _ _ _ | show AWP _ _ _ _ _))) | ((first | refine x8 [] rfl ?_ | refine j8 [] rfl ?_); simp (disch := omega) only [go_sem, seval, pnP, pnM, pnP1, pnM1]; (repeat (first | refine ⟨by omega, ?_⟩ | refine ⟨True.intro, ?_⟩)))))
 (refine j17 (z17 [(1000, 1000)] rfl rfl rfl rfl rfl rfl (z147 hc y n gen a1 b1 (by omega) (by omega) hn dy) (fun _ => rfl) (j13 (by repeat (first | exact trivial | refine ⟨rfl, ?_⟩)) (by kernel_rfl)) (fun _ => (j13 (by repeat (first | exact trivial | refine ⟨rfl, ?_⟩)) (by kernel_rfl)))) ?_); rintro ⟨⟨p,hint⟩,hp1,hp2,hh⟩; simp (disch := omega) only [go_sem, seval, pnP, pnM, pnP1, pnM1]
 simp only [] at hp1 hp2 hh
 (repeat ((fail_if_success (show AWP _ _ (.region 11 _ _) _ _)); first | apply j0 | refine q8 rfl ?_ | refine z8 rfl ?_ | apply x7 | (refine j4 fun K hK => ?_) | (refine x5 fun K hK => ?_) | ((first | apply j6 | apply z7 | ((first | refine x4 (hK _ ?_) | refine x6 (hK _ _ j5 ?_)); clear hK K)); (first | show AWP _ _ _ _ _ | ((try simp only [j7]); first | show loopQ _ _ _ _ _ _ | show cutQ _ _ _ _ | show AWP _ _ _ _ _))) | ((first | refine x8 [] rfl ?_ | refine j8 [] rfl ?_); simp (disch := omega) only [go_sem, seval, pnP, pnM, pnP1, pnM1]; (repeat (first | refine ⟨by omega, ?_⟩ | refine ⟨True.intro, ?_⟩)))))
 refine q18 (A' := pdT n gen g o a1 b1 lim wb wp p hint y) ?_ ?_
 ·unfold pdT
  refine Weak.list ?_ ?_; (all_goals simp (disch := omega) only [AllF, AllL, x11, j11, z11, exists_eq_left', go_sem, seval, pnP, pnM, pnP1, pnM1]); (all_goals (repeat' (with_reducible apply And.intro))); (all_goals try (first | exact q9 rfl | (refine q12 ?_; omega) | (refine q9 ?_; simp; done)))
 unfold pdT
 refine j32 (fun s : {s : Nat × Int × (Nat → Nat) // a1 ≤ s.1 ∧ s.1 < b1 ∧ (s.2.1 = 0 ∨ s.2.1 = 1) ∧ PD key n N a b x a1 b1 s.2.2} => pdT n gen g o a1 b1 lim wb wp s.val.1 s.val.2.1 s.val.2.2) ?_ ?_
 ·rcases hh with rfl | rfl | rfl
  ·(repeat (first | apply j0 | refine q8 rfl ?_ | refine z8 rfl ?_ | apply x7 | (refine j4 fun K hK => ?_) | (refine x5 fun K hK => ?_) | ((first | apply j6 | apply z7 | ((first | refine x4 (hK _ ?_) | refine x6 (hK _ _ j5 ?_)); clear hK K)); (first | show AWP _ _ _ _ _ | ((try simp only [j7]); first | show loopQ _ _ _ _ _ _ | show cutQ _ _ _ _ | show AWP _ _ _ _ _))) | ((first | refine x8 [] rfl ?_ | refine j8 [] rfl ?_); simp (disch := omega) only [go_sem, seval, pnP, pnM, pnP1, pnM1]; (repeat (first | refine ⟨by omega, ?_⟩ | refine ⟨True.intro, ?_⟩)))))
   (show cutQ _ _ .normal _); refine x17 (⟨(p, 0, y), hp1, hp2, .inl rfl, hs⟩) ?_
   unfold pdT
   refine Weak.list ?_ ?_; (all_goals simp (disch := omega) only [AllF, AllL, x11, j11, z11, exists_eq_left', go_sem, seval, pnP, pnM, pnP1, pnM1]); (all_goals (repeat' (with_reducible apply And.intro))); (all_goals try (first | exact q9 rfl | (refine q12 ?_; omega) | (refine q9 ?_; simp; done)))
  ·(repeat (first | apply j0 | refine q8 rfl ?_ | refine z8 rfl ?_ | apply x7 | (refine j4 fun K hK => ?_) | (refine x5 fun K hK => ?_) | ((first | apply j6 | apply z7 | ((first | refine x4 (hK _ ?_) | refine x6 (hK _ _ j5 ?_)); clear hK K)); (first | show AWP _ _ _ _ _ | ((try simp only [j7]); first | show loopQ _ _ _ _ _ _ | show cutQ _ _ _ _ | show AWP _ _ _ _ _))) | ((first | refine x8 [] rfl ?_ | refine j8 [] rfl ?_); simp (disch := omega) only [go_sem, seval, pnP, pnM, pnP1, pnM1]; (repeat (first | refine ⟨by omega, ?_⟩ | refine ⟨True.intro, ?_⟩)))))
   (show cutQ _ _ .normal _); refine x17 (⟨(p, 1, y), hp1, hp2, .inr rfl, hs⟩) ?_
   unfold pdT
   refine Weak.list ?_ ?_; (all_goals simp (disch := omega) only [AllF, AllL, x11, j11, z11, exists_eq_left', go_sem, seval, pnP, pnM, pnP1, pnM1]); (all_goals (repeat' (with_reducible apply And.intro))); (all_goals try (first | exact q9 rfl | (refine q12 ?_; omega) | (refine q9 ?_; simp; done)))
  ·(repeat (first | apply j0 | refine q8 rfl ?_ | refine z8 rfl ?_ | apply x7 | (refine j4 fun K hK => ?_) | (refine x5 fun K hK => ?_) | ((first | apply j6 | apply z7 | ((first | refine x4 (hK _ ?_) | refine x6 (hK _ _ j5 ?_)); clear hK K)); (first | show AWP _ _ _ _ _ | ((try simp only [j7]); first | show loopQ _ _ _ _ _ _ | show cutQ _ _ _ _ | show AWP _ _ _ _ _))) | ((first | refine x8 [] rfl ?_ | refine j8 [] rfl ?_); simp (disch := omega) only [go_sem, seval, pnP, pnM, pnP1, pnM1]; (repeat (first | refine ⟨by omega, ?_⟩ | refine ⟨True.intro, ?_⟩)))))
   (refine j17 (z17 [(1000, 1000)] rfl rfl rfl rfl rfl rfl (q148 (.fn (.func g) [o] []) y n gen a1 b1 (by omega) (by omega) hn) (fun _ => rfl) (j13 (by repeat (first | exact trivial | refine ⟨rfl, ?_⟩)) (by kernel_rfl)) (fun _ => (j13 (by repeat (first | exact trivial | refine ⟨rfl, ?_⟩)) (by kernel_rfl)))) ?_); rintro ⟨z,hz⟩; simp (disch := omega) only [go_sem, seval, pnP, pnM, pnP1, pnM1]
   (repeat (first | apply j0 | refine q8 rfl ?_ | refine z8 rfl ?_ | apply x7 | (refine j4 fun K hK => ?_) | (refine x5 fun K hK => ?_) | ((first | apply j6 | apply z7 | ((first | refine x4 (hK _ ?_) | refine x6 (hK _ _ j5 ?_)); clear hK K)); (first | show AWP _ _ _ _ _ | ((try simp only [j7]); first | show loopQ _ _ _ _ _ _ | show cutQ _ _ _ _ | show AWP _ _ _ _ _))) | ((first | refine x8 [] rfl ?_ | refine j8 [] rfl ?_); simp (disch := omega) only [go_sem, seval, pnP, pnM, pnP1, pnM1]; (repeat (first | refine ⟨by omega, ?_⟩ | refine ⟨True.intro, ?_⟩)))))
   (show cutQ _ _ .normal _); refine x17 (⟨(b1 - 1 - (p - a1), 1, z), by simp only []; omega, by simp only []; omega, .inr rfl, hs.pe' hz⟩) ?_
   unfold pdT
   refine Weak.list ?_ ?_; (all_goals simp (disch := omega) only [AllF, AllL, x11, j11, z11, exists_eq_left', go_sem, seval, pnP, pnM, pnP1, pnM1]); (all_goals (repeat' (with_reducible apply And.intro))); (all_goals try (first | exact q9 rfl | (refine q12 ?_; omega) | (refine q9 ?_; simp; done)))
 rintro ⟨⟨p, hint, y⟩, hp1, hp2, hh, hs⟩
 unfold pdT
 simp only [] at hp1 hp2 hh hs ⊢
 have dy := hx.pe hs.pe hab hb
 refine j0 ?_
 refine j0 ?_
 refine j32 (fun z : {z : Nat → Nat // PD key n N a b x a1 b1 z} => pdT n gen g o a1 b1 lim wb wp p hint z.val) ?_ ?_
 ·by_cases hw : wb = true ∧ wp = true ∧ hint = 1
  ·obtain ⟨rfl, rfl, rfl⟩ := hw
   (repeat (first | apply j0 | refine q8 rfl ?_ | refine z8 rfl ?_ | apply x7 | (refine j4 fun K hK => ?_) | (refine x5 fun K hK => ?_) | ((first | apply j6 | apply z7 | ((first | refine x4 (hK _ ?_) | refine x6 (hK _ _ j5 ?_)); clear hK K)); (first | show AWP _ _ _ _ _ | ((try simp only [j7]); first | show loopQ _ _ _ _ _ _ | show cutQ _ _ _ _ | show AWP _ _ _ _ _))) | ((first | refine x8 [] rfl ?_ | refine j8 [] rfl ?_); simp (disch := omega) only [go_sem, seval, pnP, pnM, pnP1, pnM1]; (repeat (first | refine ⟨by omega, ?_⟩ | refine ⟨True.intro, ?_⟩)))))
   (refine j17 (z17 [(1000, 1000)] rfl rfl rfl rfl rfl rfl (x149 hc y n gen a1 b1 (by omega) (by omega) hn dy hs.bl) (fun _ => rfl) (j13 (by repeat (first | exact trivial | refine ⟨rfl, ?_⟩)) (by kernel_rfl)) (fun _ => (j13 (by repeat (first | exact trivial | refine ⟨rfl, ?_⟩)) (by kernel_rfl)))) ?_); rintro ⟨⟨r,z⟩,hz,hz2⟩; simp (disch := omega) only [go_sem, seval, pnP, pnM, pnP1, pnM1]
   simp only [] at hz hz2
   cases r
   ·(repeat (first | apply j0 | refine q8 rfl ?_ | refine z8 rfl ?_ | apply x7 | (refine j4 fun K hK => ?_) | (refine x5 fun K hK => ?_) | ((first | apply j6 | apply z7 | ((first | refine x4 (hK _ ?_) | refine x6 (hK _ _ j5 ?_)); clear hK K)); (first | show AWP _ _ _ _ _ | ((try simp only [j7]); first | show loopQ _ _ _ _ _ _ | show cutQ _ _ _ _ | show AWP _ _ _ _ _))) | ((first | refine x8 [] rfl ?_ | refine j8 [] rfl ?_); simp (disch := omega) only [go_sem, seval, pnP, pnM, pnP1, pnM1]; (repeat (first | refine ⟨by omega, ?_⟩ | refine ⟨True.intro, ?_⟩)))))
    (show cutQ _ _ .normal _); refine x17 (⟨z, hs.pe' hz⟩) ?_
    unfold pdT
    refine Weak.list ?_ ?_; (all_goals simp (disch := omega) only [AllF, AllL, x11, j11, z11, exists_eq_left', go_sem, seval, pnP, pnM, pnP1, pnM1]); (all_goals (repeat' (with_reducible apply And.intro))); (all_goals try (first | exact q9 rfl | (refine q12 ?_; omega) | (refine q9 ?_; simp; done)))
   ·(repeat (first | apply j0 | refine q8 rfl ?_ | refine z8 rfl ?_ | apply x7 | (refine j4 fun K hK => ?_) | (refine x5 fun K hK => ?_) | ((first | apply j6 | apply z7 | ((first | refine x4 (hK _ ?_) | refine x6 (hK _ _ j5 ?_)); clear hK K)); (first | show AWP _ _ _ _ _ | ((try simp only [j7]); first | show loopQ _ _ _ _ _ _ | show cutQ _ _ _ _ | show AWP _ _ _ _ _))) | ((first | refine x8 [] rfl ?_ | refine j8 [] rfl ?_); simp (disch := omega) only [go_sem, seval, pnP, pnM, pnP1, pnM1]; (repeat (first | refine ⟨by omega, ?_⟩ | refine ⟨True.intro, ?_⟩)))))
    refine q10 (z146 ?_)
    refine And.right (z14 (l := 1000) rfl rfl ?_)
    exact ⟨⟨z, hs.pe.trans (hz.widen g1 g2 g3), hs.fin z hz (hz2 rfl)⟩, rfl, rfl⟩
  ·have hq : wb = false ∨ (wb = true ∧ wp = false) ∨ (wb = true ∧ wp = true ∧ hint = 0) := by
    cases wb
    ·exact .inl rfl
    ·cases wp
     ·exact .inr (.inl ⟨rfl, rfl⟩)
     ·rcases hh with h | h
      ·exact .inr (.inr ⟨rfl, rfl, h⟩)
      ·exact absurd ⟨rfl, rfl, h⟩ hw
   rcases hq with rfl | ⟨rfl, rfl⟩ | ⟨rfl, rfl, rfl⟩
   all_goals
    (repeat (first | apply j0 | refine q8 rfl ?_ | refine z8 rfl ?_ | apply x7 | (refine j4 fun K hK => ?_) | (refine x5 fun K hK => ?_) | ((first | apply j6 | apply z7 | ((first | refine x4 (hK _ ?_) | refine x6 (hK _ _ j5 ?_)); clear hK K)); (first | show AWP _ _ _ _ _ | ((try simp only [j7]); first | show loopQ _ _ _ _ _ _ | show cutQ _ _ _ _ | show AWP _ _ _ _ _))) | ((first | refine x8 [] rfl ?_ | refine j8 [] rfl ?_); simp (disch := omega) only [go_sem, seval, pnP, pnM, pnP1, pnM1]; (repeat (first | refine ⟨by omega, ?_⟩ | refine ⟨True.intro, ?_⟩)))))
    (show cutQ _ _ .normal _); refine x17 (⟨y, hs⟩) ?_
    unfold pdT
    refine Weak.list ?_ ?_; (all_goals simp (disch := omega) only [AllF, AllL, x11, j11, z11, exists_eq_left', go_sem, seval, pnP, pnM, pnP1, pnM1]); (all_goals (repeat' (with_reducible apply And.intro))); (all_goals try (first | exact q9 rfl | (refine q12 ?_; omega) | (refine q9 ?_; simp; done)))
 rintro ⟨y, hs⟩
 unfold pdT
 simp only [] at hs ⊢
 have dy := hx.pe hs.pe hab hb
 refine j0 ?_
 refine j0 ?_
 refine j32 (fun z : Unit => pdT n gen g o a1 b1 lim wb wp p hint y) ?_ ?_
 ·by_cases ha0 : a1 = 0
  ·subst ha0
   (repeat (first | apply j0 | refine q8 rfl ?_ | refine z8 rfl ?_ | apply x7 | (refine j4 fun K hK => ?_) | (refine x5 fun K hK => ?_) | ((first | apply j6 | apply z7 | ((first | refine x4 (hK _ ?_) | refine x6 (hK _ _ j5 ?_)); clear hK K)); (first | show AWP _ _ _ _ _ | ((try simp only [j7]); first | show loopQ _ _ _ _ _ _ | show cutQ _ _ _ _ | show AWP _ _ _ _ _))) | ((first | refine x8 [] rfl ?_ | refine j8 [] rfl ?_); simp (disch := omega) only [go_sem, seval, pnP, pnM, pnP1, pnM1]; (repeat (first | refine ⟨by omega, ?_⟩ | refine ⟨True.intro, ?_⟩)))))
   (show cutQ _ _ .normal _); refine x17 (()) ?_
   unfold pdT
   refine Weak.list ?_ ?_; (all_goals simp (disch := omega) only [AllF, AllL, x11, j11, z11, exists_eq_left', go_sem, seval, pnP, pnM, pnP1, pnM1]); (all_goals (repeat' (with_reducible apply And.intro))); (all_goals try (first | exact q9 rfl | (refine q12 ?_; omega) | (refine q9 ?_; simp; done)))
  ·obtain ⟨a2, rfl⟩ : ∃ m, a1 = m + 1 := ⟨a1 - 1, by omega⟩
   have r1 := z15 y a2
   have r2 := z15 y p
   have cc := hc.call (y a2) (y p) (dy.lt _ (by omega)) (dy.lt _ (by omega))
   have cl := hc.lt (y a2) (y p) (dy.lt _ (by omega)) (dy.lt _ (by omega))
   have ci := hc.inj (y a2) (y p) (dy.lt _ (by omega)) (dy.lt _ (by omega))
   have hle := hs.bl p (by omega) (by omega) (by omega)
   rw [Nat.add_sub_cancel] at hle
   have hne : key (y a2) ≠ key (y p) := fun e => by
    have := dy.inj (by omega) (by omega) (ci e)
    omega
   generalize c (y a2) (y p) = c0 at cc cl
   have hlt : c0 < 0 := cl.2 (by omega)
   (repeat (first | apply j0 | refine q8 rfl ?_ | refine z8 rfl ?_ | apply x7 | (refine j4 fun K hK => ?_) | (refine x5 fun K hK => ?_) | ((first | apply j6 | apply z7 | ((first | refine x4 (hK _ ?_) | refine x6 (hK _ _ j5 ?_)); clear hK K)); (first | show AWP _ _ _ _ _ | ((try simp only [j7]); first | show loopQ _ _ _ _ _ _ | show cutQ _ _ _ _ | show AWP _ _ _ _ _))) | ((first | refine j10 rfl rfl rfl ?_ | refine q11 rfl rfl rfl ?_); simp (disch := omega) only [go_sem, seval, pnP, pnM, pnP1, pnM1, r1, r2]; (first | refine ⟨_, cc, ?_⟩)) | ((first | refine x8 [] rfl ?_ | refine j8 [] rfl ?_); simp (disch := omega) only [go_sem, seval, pnP, pnM, pnP1, pnM1, r1, r2]; (repeat (first | refine ⟨by omega, ?_⟩ | refine ⟨True.intro, ?_⟩)))))
   (show cutQ _ _ .normal _); refine x17 (()) ?_
   unfold pdT
   refine Weak.list ?_ ?_; (all_goals simp (disch := omega) only [AllF, AllL, x11, j11, z11, exists_eq_left', go_sem, seval, pnP, pnM, pnP1, pnM1, r1, r2]); (all_goals (repeat' (with_reducible apply And.intro))); (all_goals try (first | exact q9 rfl | (refine q12 ?_; omega) | (refine q9 ?_; simp; done)))
 rintro ⟨⟩
 unfold pdT
 generalize he8 : ((b1 : Int) - (a1 : Int)).tdiv 8 = t8
 (repeat (first | apply j0 | refine q8 rfl ?_ | refine z8 rfl ?_ | apply x7 | (refine j4 fun K hK => ?_) | (refine x5 fun K hK => ?_) | ((first | apply j6 | apply z7 | ((first | refine x4 (hK _ ?_) | refine x6 (hK _ _ j5 ?_)); clear hK K)); (first | show AWP _ _ _ _ _ | ((try simp only [j7]); first | show loopQ _ _ _ _ _ _ | show cutQ _ _ _ _ | show AWP _ _ _ _ _))) | ((first | refine x8 [] rfl ?_ | refine j8 [] rfl ?_); simp (disch := omega) only [go_sem, seval, pnP, pnM, pnP1, pnM1, he8]; (repeat (first | refine ⟨by omega, ?_⟩ | refine ⟨True.intro, ?_⟩)))))
 (refine j17 (z17 [(1000, 1000)] rfl rfl rfl rfl rfl rfl (z149 hc y n gen a1 b1 p (by omega) hp1 hp2 (by omega) hn dy) (fun _ => rfl) (j13 (by repeat (first | exact trivial | refine ⟨rfl, ?_⟩)) (by kernel_rfl)) (fun _ => (j13 (by repeat (first | exact trivial | refine ⟨rfl, ?_⟩)) (by kernel_rfl)))) ?_); rintro ⟨⟨m,wp2,z⟩,hm1,hm2,hm3,hm4⟩; simp (disch := omega) only [go_sem, seval, pnP, pnM, pnP1, pnM1, he8]
 simp only [] at hm1 hm2 hm3 hm4
 have hs' := hs.pe' hm3
 have dz := hx.pe hs'.pe hab hb
 by_cases hside : m - a1 < b1 - m
 ·(repeat (first | apply j0 | refine q8 rfl ?_ | refine z8 rfl ?_ | apply x7 | (refine j4 fun K hK => ?_) | (refine x5 fun K hK => ?_) | ((first | apply j6 | apply z7 | ((first | refine x4 (hK _ ?_) | refine x6 (hK _ _ j5 ?_)); clear hK K)); (first | show AWP _ _ _ _ _ | ((try simp only [j7]); first | show loopQ _ _ _ _ _ _ | show cutQ _ _ _ _ | show AWP _ _ _ _ _))) | ((first | refine x8 [] rfl ?_ | refine j8 [] rfl ?_); simp (disch := omega) only [go_sem, seval, pnP, pnM, pnP1, pnM1, he8]; (repeat (first | refine ⟨by omega, ?_⟩ | refine ⟨True.intro, ?_⟩)))))
  (refine j17 (z17 [(1000, 1000)] rfl rfl rfl rfl rfl rfl (ih (m - a1) (by omega) z a1 m a1 m lim (Nat.le_refl _) rfl rfl hm1 (by omega) dz (fun k k0 k1 k2 => hs'.bl k k0 k1 (by omega)) l0 l1) (fun _ => rfl) (j13 (by repeat (first | exact trivial | refine ⟨rfl, ?_⟩)) (by kernel_rfl)) (fun _ => (j13 (by repeat (first | exact trivial | refine ⟨rfl, ?_⟩)) (by kernel_rfl)))) ?_); rintro ⟨u,hu,hu2⟩; simp (disch := omega) only [go_sem, seval, pnP, pnM, pnP1, pnM1, he8]
  (repeat (first | apply j0 | refine q8 rfl ?_ | refine z8 rfl ?_ | apply x7 | (refine j4 fun K hK => ?_) | (refine x5 fun K hK => ?_) | ((first | apply j6 | apply z7 | ((first | refine x4 (hK _ ?_) | refine x6 (hK _ _ j5 ?_)); clear hK K)); (first | show AWP _ _ _ _ _ | ((try simp only [j7]); first | show loopQ _ _ _ _ _ _ | show cutQ _ _ _ _ | show AWP _ _ _ _ _))) | ((first | refine x8 [] rfl ?_ | refine j8 [] rfl ?_); simp (disch := omega) only [go_sem, seval, pnP, pnM, pnP1, pnM1, he8]; (repeat (first | refine ⟨by omega, ?_⟩ | refine ⟨True.intro, ?_⟩)))))
  refine ⟨⟨(m + 1, b1, lim, decide ((m : Int) - a1 ≥ IntKind.i64.wrap t8), wp2, u), l0, l1, hs'.left hm1 hm2 hm4 hu hu2⟩, by simp only []; omega, ?_⟩
  refine Weak.list ?_ ?_; (all_goals simp (disch := omega) only [AllF, AllL, x11, j11, z11, exists_eq_left', go_sem, seval, pnP, pnM, pnP1, pnM1, he8]); (all_goals (repeat' (with_reducible apply And.intro))); (all_goals try (first | exact q9 rfl | (refine q12 ?_; omega) | (refine q9 ?_; simp; done)))
 ·(repeat (first | apply j0 | refine q8 rfl ?_ | refine z8 rfl ?_ | apply x7 | (refine j4 fun K hK => ?_) | (refine x5 fun K hK => ?_) | ((first | apply j6 | apply z7 | ((first | refine x4 (hK _ ?_) | refine x6 (hK _ _ j5 ?_)); clear hK K)); (first | show AWP _ _ _ _ _ | ((try simp only [j7]); first | show loopQ _ _ _ _ _ _ | show cutQ _ _ _ _ | show AWP _ _ _ _ _))) | ((first | refine x8 [] rfl ?_ | refine j8 [] rfl ?_); simp (disch := omega) only [go_sem, seval, pnP, pnM, pnP1, pnM1, he8]; (repeat (first | refine ⟨by omega, ?_⟩ | refine ⟨True.intro, ?_⟩)))))
  (refine j17 (z17 [(1000, 1000)] rfl rfl rfl rfl rfl rfl (ih (b1 - (m + 1)) (by omega) z (m + 1) b1 ((m : Int) + 1) b1 lim (Nat.le_refl _) (by omega) rfl (by omega) (by omega) dz (fun k k0 k1 k2 => by rw [Nat.add_sub_cancel]; exact hm4.hi k (by omega) k2) l0 l1) (fun _ => rfl) (j13 (by repeat (first | exact trivial | refine ⟨rfl, ?_⟩)) (by kernel_rfl)) (fun _ => (j13 (by repeat (first | exact trivial | refine ⟨rfl, ?_⟩)) (by kernel_rfl)))) ?_); rintro ⟨u,hu,hu2⟩; simp (disch := omega) only [go_sem, seval, pnP, pnM, pnP1, pnM1, he8]
  (repeat (first | apply j0 | refine q8 rfl ?_ | refine z8 rfl ?_ | apply x7 | (refine j4 fun K hK => ?_) | (refine x5 fun K hK => ?_) | ((first | apply j6 | apply z7 | ((first | refine x4 (hK _ ?_) | refine x6 (hK _ _ j5 ?_)); clear hK K)); (first | show AWP _ _ _ _ _ | ((try simp only [j7]); first | show loopQ _ _ _ _ _ _ | show cutQ _ _ _ _ | show AWP _ _ _ _ _))) | ((first | refine x8 [] rfl ?_ | refine j8 [] rfl ?_); simp (disch := omega) only [go_sem, seval, pnP, pnM, pnP1, pnM1, he8]; (repeat (first | refine ⟨by omega, ?_⟩ | refine ⟨True.intro, ?_⟩)))))
  refine ⟨⟨(a1, m, lim, decide ((b1 : Int) - m ≥ IntKind.i64.wrap t8), wp2, u), l0, l1, hs'.right hm1 hm2 hm4 hu hu2⟩, by simp only []; omega, ?_⟩
  refine Weak.list ?_ ?_; (all_goals simp (disch := omega) only [AllF, AllL, x11, j11, z11, exists_eq_left', go_sem, seval, pnP, pnM, pnP1, pnM1, he8]); (all_goals (repeat' (with_reducible apply And.intro))); (all_goals try (first | exact q9 rfl | (refine q12 ?_; omega) | (refine q9 ?_; simp; done)))
set_option maxRecDepth 100000 in
set_option maxHeartbeats 2000000 in
theorem x97 {key : Nat → Int} {c : Nat → Nat → Int} {g : FuncId} {o : PV} {N : Nat} (hc : CmpN Tryz.prog g o N key c) (x : Nat → Nat) (n gen : Nat) (hn : n ≤ 1099511627776) (hx : Dom n N x) :
  MCalls Tryz.prog 103 [.ow 1000 gen 1 n, .p (.fn (.func g) [o] [])] [(1000, .own 3 1 n gen (rowN x))]
   (fun rs M => ∃ y : {y : Nat → Nat // PE 0 n x y ∧ Srt key 0 n y}, rs = [] ∧ M = [(1000, .own 3 1 n gen (rowN y.val))]) := by
 have bl := z97 n hn
 have hL : Go.Lib.bitLen n ≤ 41 := by
  by_cases h0 : n = 0
  ·subst h0; decide
  ·have h := z69 h0 (show n < 2 ^ 64 by omega)
   have h2 : 2 ^ Go.Lib.bitLen n ≤ 2 ^ 41 := by omega
   exact (Nat.pow_le_pow_iff_right (by omega)).1 h2
 generalize Go.Lib.bitLen n = L at bl hL
 have e1 : IntKind.u64.wrap (n : Int) = (n : Int) := wu (by omega)
 refine z19 Tryz.func103 rfl (by decide +kernel) (by rw [Tryz.ntmps103]; simp) (fun l X h => by simp only [AL.look] at h; (repeat' split at h); all_goals first | omega | cases h) ?_; rw [Tryz.ntmps103]; simp only [frA]
 (repeat (first | apply j0 | refine q8 rfl ?_ | refine z8 rfl ?_ | apply x7 | (refine j4 fun K hK => ?_) | (refine x5 fun K hK => ?_) | ((first | apply j6 | apply z7 | ((first | refine x4 (hK _ ?_) | refine x6 (hK _ _ j5 ?_)); clear hK K)); (first | show AWP _ _ _ _ _ | ((try simp only [j7]); first | show loopQ _ _ _ _ _ _ | show cutQ _ _ _ _ | show AWP _ _ _ _ _))) | ((first | refine j10 rfl rfl rfl ?_ | refine q11 rfl rfl rfl ?_); simp (disch := omega) only [go_sem, seval, pnP, pnM, pnP1, pnM1, e1]; (first | refine ⟨_, bl, ?_⟩)) | ((first | refine x8 [] rfl ?_ | refine j8 [] rfl ?_); simp (disch := omega) only [go_sem, seval, pnP, pnM, pnP1, pnM1, e1]; (repeat (first | refine ⟨by omega, ?_⟩ | refine ⟨True.intro, ?_⟩)))))
 (refine j17 (z17 [(1000, 1000)] rfl rfl rfl rfl rfl rfl (pdq_c hc n gen hn n x 0 n 0 n L (by omega) rfl rfl (by omega) (by omega) hx (fun k h0 h1 h2 => by omega) (by omega) (by omega)) (fun _ => rfl) (j13 (by repeat (first | exact trivial | refine ⟨rfl, ?_⟩)) (by kernel_rfl)) (fun _ => (j13 (by repeat (first | exact trivial | refine ⟨rfl, ?_⟩)) (by kernel_rfl)))) ?_); rintro ⟨y,hy,hy2⟩; simp (disch := omega) only [go_sem, seval, pnP, pnM, pnP1, pnM1, e1]
 (repeat (first | apply j0 | refine q8 rfl ?_ | refine z8 rfl ?_ | apply x7 | (refine j4 fun K hK => ?_) | (refine x5 fun K hK => ?_) | ((first | apply j6 | apply z7 | ((first | refine x4 (hK _ ?_) | refine x6 (hK _ _ j5 ?_)); clear hK K)); (first | show AWP _ _ _ _ _ | ((try simp only [j7]); first | show loopQ _ _ _ _ _ _ | show cutQ _ _ _ _ | show AWP _ _ _ _ _))) | ((first | refine x8 [] rfl ?_ | refine j8 [] rfl ?_); simp (disch := omega) only [go_sem, seval, pnP, pnM, pnP1, pnM1, e1]; (repeat (first | refine ⟨by omega, ?_⟩ | refine ⟨True.intro, ?_⟩)))))
 (first | (refine x4 (hK _ ?_); refine And.left (z14 (l := 1000) rfl rfl ?_)) | (refine z7 ?_; refine And.left (z14 (l := 1000) rfl rfl ?_)) | (refine j6 ?_; refine And.left (z14 (l := 1000) rfl rfl ?_)) | (refine q10 ?_; refine And.right (z14 (l := 1000) rfl rfl ?_)) | refine And.left (z14 (l := 1000) rfl rfl ?_))
 exact ⟨⟨y, hy, hy2⟩, rfl, rfl⟩
end Go.Proofs.YtemcdefpihkfpaaGreat
namespace Go.Proofs.YtemcdefpihkfpaaGreat.AL
open Go
theorem Weak.ownCell (A : ASt) (l0 l j sz : Nat) (e e' : TypeId) (cs : List AV) (f : Nat → List Dat) (hl0 : look A.locs l0 = some (.cells e cs)) (hj : cs[j]? = some (.p (.d (.v (.slice none 0 0))))) (hne : l0 ≠ l)
  (hu : unusedB A l = true) (hn : look A.locs l = none) : Weak A ⟨A.fr, (l, .own e' sz 0 0 f) :: (l0, .cells e (cs.set j (.ow l 0 sz 0))) :: A.locs⟩ := by
 intro w0 g0 nt h a w r
 let h' : Gh := { h with κ := fun k => if k = l then .slice none 0 0 else h.κ k, μ := fun k => if k = l then 0 else h.μ k }
 have un := j38 hu
 have tr : Trans w0.O w h w h' (fun _ => False) (some l) true := by
  refine ⟨BelowS.refl _ _, fun b _ _ => ⟨rfl, rfl⟩, ⟨fun b => Nat.le_refl _, fun b o _ => rfl⟩, r.gz, fun b _ => rfl, fun _ _ => rfl, fun k hk => ?_, fun k _ hf => by cases hf⟩
  have : k ≠ l := fun e => hk (by rw [e])
  simp [h', this]
 have nl : h'.κ l = .slice none 0 0 := by simp [h']
 have nm : h'.μ l = 0 := by simp [h']
 have old : ∀ k L, k ≠ l → look A.locs k = some L → LocOK w0.O w h' k L ∧ inB h' k L = inB h k L := fun k L hk hL =>
  LocOK.trans tr (fun e => hk (by cases e; rfl)) (fun _ l' hl' hm => by cases hl'; exact un.2.1 k L hL hm) (fun b _ => by simp) (r.locs k L hL)
 have cell0 : LocOK w0.O w h' l0 (.cells e (cs.set j (.ow l 0 sz 0))) := by
  obtain ⟨arr, c1, c2, c3, c4, c5⟩ := (old l0 _ hne hl0).1
  refine ⟨arr, c1, c2, by simpa using c3, c4, fun i v x hv hx => ?_⟩
  by_cases hi : i = j
  ·subst hi
   have hlt := (List.getElem?_eq_some_iff.1 hj).1
   rw [List.getElem?_set_self hlt] at hx
   cases hx
   obtain ⟨k1, k2⟩ := c5 i v _ hv hj
   have hv0 := j86 k1
   refine ⟨?_, k2⟩
   rw [hv0]
   exact ⟨by omega, ⟨_, _, rfl, fun hh => by omega⟩, fun _ => nl.symm⟩
  ·rw [List.getElem?_set_ne (fun e => hi e.symm)] at hx
   exact c5 i v x hv hx
 refine ⟨h', r.size, r.defers, fun u y hy => ?_, fun k L hL => ?_, fun k k' L L' b hne2 hL hL' hbk => ?_, r.ext, fun k hk => ?_⟩
 ·exact RelA.trans tr (fun _ l' hl' hm => by cases hl'; exact un.1 u y hy hm) (r.fr u y hy)
 ·simp only [look] at hL
  split at hL
  ·rename_i e2; subst e2; cases hL
   exact ⟨nm, ⟨[], by rw [nl]; exact World.ownsRow_nil _ _ _ _, fun i hi => by omega, fun i j d hi => by omega⟩, fun b hb => by rw [nl] at hb; simp [Value.ownBlock] at hb⟩
  ·rename_i hk
   split at hL
   ·rename_i e2; subst e2; cases hL; exact cell0
   ·exact (old k L (fun e => hk e.symm) hL).1
 ·have two : ∀ {k : Nat} {L : LV}, look ((l, LV.own e' sz 0 0 f) :: (l0, .cells e (cs.set j (.ow l 0 sz 0))) :: A.locs) k = some L → inB h' k L b → k ≠ l ∧ ∃ L0, look A.locs k = some L0 ∧ inB h k L0 b := by
   intro k L hL hb
   simp only [look] at hL
   split at hL
   ·rename_i e2; subst e2; cases hL
    simp [inB, nl, Value.ownBlock] at hb
   ·rename_i hk
    refine ⟨fun e => hk e.symm, ?_⟩
    split at hL
    ·rename_i e2; subst e2; cases hL
     exact ⟨_, hl0, hb⟩
    ·exact ⟨L, hL, by rw [← (old k L (fun e => hk e.symm) hL).2]; exact hb⟩
  intro hin
  obtain ⟨a1, L1, a2, a3⟩ := two hL hbk
  obtain ⟨b1, L2, b2, b3⟩ := two hL' hin
  exact r.sep k k' L1 L2 b hne2 a2 b2 a3 b3
 ·have : k ≠ l := by have := un.2.2; omega
  simp only [h', if_neg this]
  exact r.pin k hk
theorem j149 {P : Program} {nt : Nat} {c : Code} {Q : Exit → ASt → Prop} {A : ASt} (l0 l j sz : Nat) (e' : TypeId) (f : Nat → List Dat) {e : TypeId} {cs : List AV} (hl0 : look A.locs l0 = some (.cells e cs)) (hj : cs[j]? = some (.p (.d (.v (.slice none 0 0))))) (hne : l0 ≠ l)
  (hu : unusedB A l = true) (hn : look A.locs l = none) (h : AWP P nt c Q ⟨A.fr, (l, .own e' sz 0 0 f) :: (l0, .cells e (cs.set j (.ow l 0 sz 0))) :: A.locs⟩) : AWP P nt c Q A := q18 (Weak.ownCell A l0 l j sz e e' cs f hl0 hj hne hu hn) h
theorem Weak.frz (A : ASt) (u l : Nat) (f : Fn) (e : TypeId) (cs : List AV) (ds : List Dat) (hu : look A.fr u = some (.cl f [.loc l 0] [])) (hl : look A.locs l = some (.cells e cs))
  (hd : ∀ (j : Nat) (d : Dat), ds[j]? = some d → cs[j]? = some (AV.p (PV.d d))) :
  Weak A ⟨(u, .p (.fn f [.d (.bx ds)] [])) :: A.fr, (l, .fz e cs) :: A.locs⟩ := by
 intro w0 g0 nt h a w r
 obtain ⟨arr, c7, c2, c5, c6, c8⟩ := r.locs l _ hl
 have hv : RelA w h (a.tmps.getD u _root_.Go.undef) (.cl f [.loc l 0] []) := r.fr u _ hu
 have hbl : h.ρ l < w.heap.size := (Array.getElem?_eq_some_iff.1 c2).1
 have hlen : ds.length ≤ arr.size := by
  rw [c5]
  by_cases h0 : ds.length = 0
  ·omega
  ·have := (List.getElem?_eq_some_iff.1 (hd (ds.length - 1) (ds[ds.length - 1]'(by omega)) (List.getElem?_eq_getElem _))).1
   omega
 generalize hb : h.ρ l = b at *
 let h' : Gh := { h with g := setG h.g b arr.size }
 have hkeep : Keep w h.g w h'.g := by
  refine ⟨fun k => ?_, fun k q hq => rfl⟩
  simp only [h', setG]; split
  ·rename_i e; rw [e, c6]; exact Nat.zero_le _
  ·exact Nat.le_refl _
 have gz' : GZ w h'.g := fun k hk => by
  have : k ≠ b := by omega
  simp only [h', setG, if_neg this]; exact r.gz k hk
 have tr : Trans w0.O w h w h' (fun k => b = k) none false := by
  refine ⟨BelowS.refl _ _, fun k _ hk => ⟨rfl, ?_⟩, hkeep, gz', fun k hk => ?_, fun _ _ => rfl, fun k _ => ⟨rfl, rfl⟩, fun k hk => by cases hk⟩
  ·have : k ≠ b := fun e => hk e.symm
   simp [h', setG, this]
  ·have : k ≠ b := fun e => hk (e ▸ c7)
   simp [h', setG, this]
 have ho : ∀ k L, k ≠ l → look A.locs k = some L → LocOK w0.O w h' k L ∧ inB h' k L = inB h k L := by
  intro k L k1 k2
  refine LocOK.trans tr (by simp) (fun hf => by cases hf) (fun b' hb' e => ?_) (r.locs k L k2)
  cases e
  exact r.sep k l L _ b k1 k2 hl hb' (by simp [inB, hb])
 have hself : LocOK w0.O w h' l (.fz e cs) := by
  refine ⟨arr, by rw [show h'.ρ l = b from hb]; exact c7, by rw [show h'.ρ l = b from hb]; exact c2, c5, by rw [show h'.ρ l = b from hb]; simp [h', setG], fun i v x hvi hx => ?_⟩
  exact ⟨RelA.trans tr (fun hf => by cases hf) (c8 i v x hvi hx).1, (c8 i v x hvi hx).2⟩
 refine ⟨h', r.size, r.defers, fun t y hy => ?_, fun k L hk => ?_, fun k k' L L' b' h1 h2 h3 h4 => ?_, ⟨r.ext.below, fun k hk => (tr.gB k hk).trans (r.ext.gam k hk), gz', r.ext.keep.trans hkeep⟩, r.pin⟩
 ·simp only [look] at hy
  split at hy
  ·rename_i e'; subst e'; cases hy
   obtain ⟨vs, us, ev, ⟨l1, k1⟩, ⟨l2, k2⟩⟩ := hv
   rw [ev]
   refine .fn f vs us _ _ (by simpa using l1) (by simpa using l2) (fun j v x hvj hx => ?_) (fun j v x _ hx => by simp at hx)
   match j, hx with
   |0, hx =>
    cases hx
    have e2 : v = .pointer (some ⟨h.ρ l, 0, none⟩) := k1 0 v (.loc l 0) hvj rfl
    rw [e2, hb]
    refine .d _ _ (.bx b 0 ds (fun j => (arr[j]?).getD _root_.Go.undef) (fun j hj => ?_) (by simp [h', setG]; exact hlen) (fun j x hx => ?_))
    ·rw [Nat.zero_add, j18 c2]
     simp [show j < arr.size by omega]
    ·have hj := (List.getElem?_eq_some_iff.1 hx).1
     have hja : arr[j]? = some arr[j] := by simp [show j < arr.size by omega]
     have h3 := (c8 j _ _ hja (hd j x hx)).1
     rw [hja]
     show RelD w h'.g arr[j] x
     revert h3
     generalize arr[j] = v
     intro h3
     cases h3 with
     | d _ _ h3 => exact h3.keep hkeep
   | j + 1, hx => simp at hx
  ·exact RelA.trans tr (fun hf => by cases hf) (r.fr t y hy)
 ·simp only [look] at hk
  split at hk
  ·rename_i e'; subst e'; cases hk; exact hself
  ·rename_i e'
   exact (ho k L (fun x => e' x.symm) hk).1
 ·have two : ∀ {k : Nat} {L : LV}, look ((l, LV.fz e cs) :: A.locs) k = some L → inB h' k L b' → ∃ L0, look A.locs k = some L0 ∧ inB h k L0 b' := by
   intro k L hk hi
   simp only [look] at hk
   split at hk
   ·rename_i e'; subst e'; cases hk
    exact ⟨_, hl, hi⟩
   ·rename_i e'
    exact ⟨L, hk, by rw [← (ho k L (fun x => e' x.symm) hk).2]; exact hi⟩
  intro hin
  obtain ⟨L0, g1, g2⟩ := two h2 h4
  obtain ⟨L1, g3, g4⟩ := two h3 hin
  exact r.sep k k' L0 L1 b' h1 g1 g3 g2 g4
end Go.Proofs.YtemcdefpihkfpaaGreat.AL
namespace Go.Proofs.YtemcdefpihkfpaaGreat
open Go.Proofs.YtemcdefpihkfpaaGreat.AL
def orI (p q : Int) : Int := if p = 0 then q else p
set_option maxHeartbeats 2000000 in
theorem OrI_c (p q : Int) : ACalls Tryz.prog 139 [.d (.sl 1 2 fun i => [[Dat.v (.int .i64 p)], [Dat.v (.int .i64 q)]].getD i [])] (· = [.d (.v (.int .i64 (orI p q)))]) := by
 unfold orI
 refine z12 Tryz.func139 rfl (by decide +kernel) (by rw [Tryz.ntmps139]; simp) ?_; rw [Tryz.ntmps139]; simp only [frOf]
 (repeat (first | apply j0 | refine q8 rfl ?_ | refine z8 rfl ?_ | apply x7 | (refine j4 fun K hK => ?_) | (refine x5 fun K hK => ?_) | ((first | apply j6 | apply z7 | ((first | refine x4 (hK _ ?_) | refine x6 (hK _ _ j5 ?_)); clear hK K)); (first | show AWP _ _ _ _ _ | ((try simp only [j7]); first | show loopQ _ _ _ _ _ _ | show cutQ _ _ _ _ | show AWP _ _ _ _ _))) | ((first | refine x8 [] rfl ?_ | refine j8 [] rfl ?_); simp (disch := omega) only [go_sem, seval, hd, cb, ruleD]; (repeat (first | refine ⟨by omega, ?_⟩ | refine ⟨True.intro, ?_⟩)))))
 refine x13 (fun i : {i : Nat // i ≤ 2 ∧ (0 < i → p = 0) ∧ (1 < i → q = 0)} => ⟨[(8, .p (.d (.v (.int .i64 (i.val : Int))))), (7, .p (.d (.v (.int .i64 2)))), (6, .p (.d (.sl 1 2 fun i => [[Dat.v (.int .i64 p)], [Dat.v (.int .i64 q)]].getD i []))), (3, .p (.d (.v (.int .i64 0))))], []⟩) (fun s => 2 - s.val) ⟨0, by omega, fun h => by omega, fun h => by omega⟩ ?_ (fun s => ?_)
 ·refine Weak.list ?_ ?_; (all_goals simp (disch := omega) only [AllF, AllL, x11, j11, z11, exists_eq_left', go_sem, seval, hd, cb, ruleD]); (all_goals (repeat' (with_reducible apply And.intro))); (all_goals try (first | exact q9 rfl | (refine q12 ?_; omega) | (refine q9 ?_; simp; done)))
 obtain ⟨i, h1, h2, h3⟩ := s
 simp only []
 rcases (by omega : i = 0 ∨ i = 1 ∨ i = 2) with rfl | rfl | rfl
 ·by_cases hp : p = 0
  ·have q1 : (p != 0) = false := x16 hp
   (repeat (first | apply j0 | refine q8 rfl ?_ | refine z8 rfl ?_ | apply x7 | (refine j4 fun K hK => ?_) | (refine x5 fun K hK => ?_) | ((first | apply j6 | apply z7 | ((first | refine x4 (hK _ ?_) | refine x6 (hK _ _ j5 ?_)); clear hK K)); (first | show AWP _ _ _ _ _ | ((try simp only [j7]); first | show loopQ _ _ _ _ _ _ | show cutQ _ _ _ _ | show AWP _ _ _ _ _))) | ((first | refine x8 [] rfl ?_ | refine j8 [] rfl ?_); simp (disch := omega) only [go_sem, seval, hd, cb, ruleD, q1]; (repeat (first | refine ⟨by omega, ?_⟩ | refine ⟨True.intro, ?_⟩)))))
   refine ⟨⟨1, by omega, fun _ => hp, fun h => by omega⟩, by simp only []; omega, ?_⟩
   refine Weak.list ?_ ?_; (all_goals simp (disch := omega) only [AllF, AllL, x11, j11, z11, exists_eq_left', go_sem, seval, hd, cb, ruleD, q1]); (all_goals (repeat' (with_reducible apply And.intro))); (all_goals try (first | exact q9 rfl | (refine q12 ?_; omega) | (refine q9 ?_; simp; done)))
  ·have q1 : (p != 0) = true := x14 hp
   rw [if_neg hp]
   (repeat (first | apply j0 | refine q8 rfl ?_ | refine z8 rfl ?_ | apply x7 | (refine j4 fun K hK => ?_) | (refine x5 fun K hK => ?_) | ((first | apply j6 | apply z7 | ((first | refine x4 (hK _ ?_) | refine x6 (hK _ _ j5 ?_)); clear hK K)); (first | show AWP _ _ _ _ _ | ((try simp only [j7]); first | show loopQ _ _ _ _ _ _ | show cutQ _ _ _ _ | show AWP _ _ _ _ _))) | ((first | refine x8 [] rfl ?_ | refine j8 [] rfl ?_); simp (disch := omega) only [go_sem, seval, hd, cb, ruleD, q1]; (repeat (first | refine ⟨by omega, ?_⟩ | refine ⟨True.intro, ?_⟩)))))
   refine q10 ⟨_, ?_, rfl⟩; rw [Tryz.results139]; simp (disch := omega) only [ResVars, ResVar, ptrLoc, go_sem, seval, hd, cb, ruleD, q1]
 ·rw [if_pos (h2 (by omega))]
  by_cases hp : q = 0
  ·have q1 : (q != 0) = false := x16 hp
   (repeat (first | apply j0 | refine q8 rfl ?_ | refine z8 rfl ?_ | apply x7 | (refine j4 fun K hK => ?_) | (refine x5 fun K hK => ?_) | ((first | apply j6 | apply z7 | ((first | refine x4 (hK _ ?_) | refine x6 (hK _ _ j5 ?_)); clear hK K)); (first | show AWP _ _ _ _ _ | ((try simp only [j7]); first | show loopQ _ _ _ _ _ _ | show cutQ _ _ _ _ | show AWP _ _ _ _ _))) | ((first | refine x8 [] rfl ?_ | refine j8 [] rfl ?_); simp (disch := omega) only [go_sem, seval, hd, cb, ruleD, q1]; (repeat (first | refine ⟨by omega, ?_⟩ | refine ⟨True.intro, ?_⟩)))))
   refine ⟨⟨2, by omega, fun _ => h2 (by omega), fun h => hp⟩, by simp only []; omega, ?_⟩
   refine Weak.list ?_ ?_; (all_goals simp (disch := omega) only [AllF, AllL, x11, j11, z11, exists_eq_left', go_sem, seval, hd, cb, ruleD, q1]); (all_goals (repeat' (with_reducible apply And.intro))); (all_goals try (first | exact q9 rfl | (refine q12 ?_; omega) | (refine q9 ?_; simp; done)))
  ·have q1 : (q != 0) = true := x14 hp
   (repeat (first | apply j0 | refine q8 rfl ?_ | refine z8 rfl ?_ | apply x7 | (refine j4 fun K hK => ?_) | (refine x5 fun K hK => ?_) | ((first | apply j6 | apply z7 | ((first | refine x4 (hK _ ?_) | refine x6 (hK _ _ j5 ?_)); clear hK K)); (first | show AWP _ _ _ _ _ | ((try simp only [j7]); first | show loopQ _ _ _ _ _ _ | show cutQ _ _ _ _ | show AWP _ _ _ _ _))) | ((first | refine x8 [] rfl ?_ | refine j8 [] rfl ?_); simp (disch := omega) only [go_sem, seval, hd, cb, ruleD, q1]; (repeat (first | refine ⟨by omega, ?_⟩ | refine ⟨True.intro, ?_⟩)))))
   refine q10 ⟨_, ?_, rfl⟩; rw [Tryz.results139]; simp (disch := omega) only [ResVars, ResVar, ptrLoc, go_sem, seval, hd, cb, ruleD, q1]
 ·rw [if_pos (h2 (by omega))]
  have hq := h3 (by omega)
  subst hq
  (repeat (first | apply j0 | refine q8 rfl ?_ | refine z8 rfl ?_ | apply x7 | (refine j4 fun K hK => ?_) | (refine x5 fun K hK => ?_) | ((first | apply j6 | apply z7 | ((first | refine x4 (hK _ ?_) | refine x6 (hK _ _ j5 ?_)); clear hK K)); (first | show AWP _ _ _ _ _ | ((try simp only [j7]); first | show loopQ _ _ _ _ _ _ | show cutQ _ _ _ _ | show AWP _ _ _ _ _))) | ((first | refine x8 [] rfl ?_ | refine j8 [] rfl ?_); simp (disch := omega) only [go_sem, seval, hd, cb, ruleD]; (repeat (first | refine ⟨by omega, ?_⟩ | refine ⟨True.intro, ?_⟩)))))
  refine q10 ⟨_, ?_, rfl⟩; rw [Tryz.results139]; simp (disch := omega) only [ResVars, ResVar, ptrLoc, go_sem, seval, hd, cb, ruleD]
def cmpO (l : List Rule) (a b : Nat) : Int := orI (cmpI (l.getD b r0).pr (l.getD a r0).pr) (cmpI (a : Int) (b : Int))
def ordO (l : List Rule) : PV := .d (.bx [.sl 12 l.length (rowR l)])
set_option maxHeartbeats 2000000 in
theorem q150 (l : List Rule) (a b : Nat) (ha : a < l.length) (hb : b < l.length) (hl : l.length ≤ 1099511627776) : ACalls Tryz.prog 137 [ordO l, .d (.v (.int .i64 (a : Int))), .d (.v (.int .i64 (b : Int)))] (· = [.d (.v (.int .i64 (cmpO l a b)))]) := by
 have r1 := z20 l a
 have r2 := z20 l b
 unfold cmpO ordO
 generalize l.getD a r0 = x at r1
 generalize l.getD b r0 = y at r2
 have k1 := q55 y.pr x.pr
 have k2 := q55 (a : Int) (b : Int)
 generalize cmpI y.pr x.pr = c1 at k1
 generalize cmpI (a : Int) (b : Int) = c2 at k2
 have k3 := OrI_c c1 c2
 refine z12 Tryz.func137 rfl (by decide +kernel) (by rw [Tryz.ntmps137]; simp) ?_; rw [Tryz.ntmps137]; simp only [frOf]
 (repeat (first | apply j0 | refine q8 rfl ?_ | refine z8 rfl ?_ | apply x7 | (refine j4 fun K hK => ?_) | (refine x5 fun K hK => ?_) | ((first | apply j6 | apply z7 | ((first | refine x4 (hK _ ?_) | refine x6 (hK _ _ j5 ?_)); clear hK K)); (first | show AWP _ _ _ _ _ | ((try simp only [j7]); first | show loopQ _ _ _ _ _ _ | show cutQ _ _ _ _ | show AWP _ _ _ _ _))) | ((first | refine j10 rfl rfl rfl ?_ | refine q11 rfl rfl rfl ?_); simp (disch := omega) only [go_sem, seval, hd, cb, ruleD, r1, r2]; (first | refine ⟨_, k1, ?_⟩ | refine ⟨_, k2, ?_⟩ | refine ⟨_, k3, ?_⟩)) | ((first | refine x8 [] rfl ?_ | refine j8 [] rfl ?_); simp (disch := omega) only [go_sem, seval, hd, cb, ruleD, r1, r2]; (repeat (first | refine ⟨by omega, ?_⟩ | refine ⟨True.intro, ?_⟩)))))
 refine q10 ⟨_, ?_, rfl⟩; rw [Tryz.results137]; simp (disch := omega) only [ResVars, ResVar, ptrLoc, go_sem, seval, hd, cb, ruleD, r1, r2]
theorem cmpO_lt {l : List Rule} {a b : Nat} : cmpO l a b < 0 ↔ ltR l a b := by
 unfold cmpO orI cmpI ltR
 generalize (l.getD b r0).pr = x
 generalize (l.getD a r0).pr = y
 by_cases h1 : x < y
 ·rw [if_pos h1, if_neg (by omega)]; exact ⟨fun _ => .inl h1, fun _ => by omega⟩
 ·rw [if_neg h1]
  by_cases h2 : y < x
  ·rw [if_pos h2, if_neg (by omega)]; omega
  ·rw [if_neg h2, if_pos rfl]
   by_cases h3 : a < b
   ·rw [if_pos (by omega)]; omega
   ·rw [if_neg (by omega)]
    split <;> omega
theorem cmpN_O (l : List Rule) (hl : l.length ≤ 1099511627776) : CmpN Tryz.prog 137 (ordO l) l.length (keyO l) (cmpO l) where
 call p q hp hq := q150 l p q hp hq hl
 lt p q hp hq := cmpO_lt.trans (x41 hp hq).symm
 inj p q hp hq := z41 hp hq
def lookI (l : List Rule) (k : Fin (l.length + 1)) : ASt :=
 ⟨[(10, .p (.d (.v (.int .i64 (k.val : Int))))), (9, .p (.d (.v (.int .i64 (l.length : Int))))), (3, .loc 7 0), (0, .p (.d (.sl 12 l.length (rowR l))))],
  [(7, .cells 189 [.p (.d (.sl 12 l.length (rowR l))), .ow 5 k.val 1 k.val]), (5, .own 3 1 k.val k.val (rowN id))]⟩
theorem catN_id (k : Nat) (i : Nat) (hi : i < k + 1) : catF k (rowN id) (fun i => [[Dat.v (.int .i64 (k : Int))]].getD i []) i = rowN id i := by
 unfold catF
 split
 ·rfl
 ·have : i = k := by omega
  subst this
  rw [Nat.sub_self]; rfl
set_option maxRecDepth 100000 in
set_option maxHeartbeats 4000000 in
theorem Look_c (l : List Rule) (hl : l.length ≤ 1099511627776) : ACalls Tryz.prog 99 [.d (.sl 12 l.length (rowR l))] (· = [.d (.sl 1 l.length (rowI (orderR l)))]) := by
 have hc := cmpN_O l hl
 unfold ordO at hc
 have d0 : Dom l.length l.length id := ⟨fun k hk => hk, by unfold seg; simp [List.nodup_range']⟩
 refine z12 Tryz.func99 rfl (by decide +kernel) (by rw [Tryz.ntmps99]; simp) ?_; rw [Tryz.ntmps99]; simp only [frOf]
 (repeat (first | apply j0 | refine q8 rfl ?_ | refine z8 rfl ?_ | apply x7 | (refine j4 fun K hK => ?_) | (refine x5 fun K hK => ?_) | ((first | apply j6 | apply z7 | ((first | refine x4 (hK _ ?_) | refine x6 (hK _ _ j5 ?_)); clear hK K)); (first | show AWP _ _ _ _ _ | ((try simp only [j7]); first | show loopQ _ _ _ _ _ _ | show cutQ _ _ _ _ | show AWP _ _ _ _ _))) | ((first | refine x8 [7] rfl ?_ | refine j8 [7] rfl ?_); simp (disch := omega) only [go_sem, seval, hd, cb, ruleD]; (repeat (first | refine ⟨by omega, ?_⟩ | refine ⟨True.intro, ?_⟩)))))
 refine j149 7 5 1 1 3 (rowN id) rfl rfl (by omega) (by kernel_rfl) rfl ?_
 refine x13 (lookI l) (fun s => l.length - s.val) ⟨0, by omega⟩ ?_ (fun s => ?_)
 ·unfold lookI
  refine Weak.list ?_ ?_; (all_goals simp (disch := omega) only [AllF, AllL, x11, j11, z11, exists_eq_left', go_sem, seval, hd, cb, ruleD]); (all_goals (repeat' (with_reducible apply And.intro))); (all_goals try (first | exact q9 rfl | (refine q12 ?_; omega) | (refine q9 ?_; simp; done)))
  exact of_eq_true (z11 _)
 obtain ⟨k, hk⟩ := s
 unfold lookI
 by_cases h : k < l.length
 ·(repeat (first | apply j0 | refine q8 rfl ?_ | refine z8 rfl ?_ | apply x7 | (refine j4 fun K hK => ?_) | (refine x5 fun K hK => ?_) | ((first | apply j6 | apply z7 | ((first | refine x4 (hK _ ?_) | refine x6 (hK _ _ j5 ?_)); clear hK K)); (first | show AWP _ _ _ _ _ | ((try simp only [j7]); first | show loopQ _ _ _ _ _ _ | show cutQ _ _ _ _ | show AWP _ _ _ _ _))) | ((first | refine x8 [7] rfl ?_ | refine j8 [7] rfl ?_); simp (disch := omega) only [go_sem, seval, hd, cb, ruleD]; (repeat (first | refine ⟨by omega, ?_⟩ | refine ⟨True.intro, ?_⟩)))))
  refine ⟨⟨k + 1, by omega⟩, by simp only []; omega, ?_⟩
  refine Weak.list ?_ ?_; (all_goals simp (disch := omega) only [AllF, AllL, x11, j11, z11, exists_eq_left', go_sem, seval, hd, cb, ruleD]); (all_goals (repeat' (with_reducible apply And.intro))); (all_goals try (first | exact q9 rfl | (refine q12 ?_; omega) | (refine q9 ?_; simp; done)))
  exact x19 rfl rfl (fun i hi => catN_id k i hi)
 ·have : k = l.length := by omega
  subst this
  (repeat (first | apply j0 | refine q8 rfl ?_ | refine z8 rfl ?_ | apply x7 | (refine j4 fun K hK => ?_) | (refine x5 fun K hK => ?_) | ((first | apply j6 | apply z7 | ((first | refine x4 (hK _ ?_) | refine x6 (hK _ _ j5 ?_)); clear hK K)); (first | show AWP _ _ _ _ _ | ((try simp only [j7]); first | show loopQ _ _ _ _ _ _ | show cutQ _ _ _ _ | show AWP _ _ _ _ _))) | ((first | refine x8 [7] rfl ?_ | refine j8 [7] rfl ?_); simp (disch := omega) only [go_sem, seval, hd, cb, ruleD]; (repeat (first | refine ⟨by omega, ?_⟩ | refine ⟨True.intro, ?_⟩)))))
  refine q86 (Weak.frz _ 29 7 (.func 137) 189 _ [.sl 12 l.length (rowR l)] rfl rfl (fun j d hd => ?_)) ?_
  ·match j, hd with
   | 0, hd => cases hd; rfl
   | j + 1, hd => simp at hd
  (refine j17 (z17 [(1000, 5)] rfl rfl rfl rfl rfl rfl (x97 hc id l.length l.length hl d0) (fun _ => rfl) (j13 (by repeat (first | exact trivial | refine ⟨rfl, ?_⟩)) (by kernel_rfl)) (fun _ => (j13 (by repeat (first | exact trivial | refine ⟨rfl, ?_⟩)) (by kernel_rfl)))) ?_); rintro ⟨y,hy,hy2⟩; simp (disch := omega) only [go_sem, seval, hd, cb, ruleD]
  (repeat (first | apply j0 | refine q8 rfl ?_ | refine z8 rfl ?_ | apply x7 | (refine j4 fun K hK => ?_) | (refine x5 fun K hK => ?_) | ((first | apply j6 | apply z7 | ((first | refine x4 (hK _ ?_) | refine x6 (hK _ _ j5 ?_)); clear hK K)); (first | show AWP _ _ _ _ _ | ((try simp only [j7]); first | show loopQ _ _ _ _ _ _ | show cutQ _ _ _ _ | show AWP _ _ _ _ _))) | ((first | refine x8 [7] rfl ?_ | refine j8 [7] rfl ?_); simp (disch := omega) only [go_sem, seval, hd, cb, ruleD]; (repeat (first | refine ⟨by omega, ?_⟩ | refine ⟨True.intro, ?_⟩)))))
  refine z87 2 5 l.length 1 l.length 3 _ rfl rfl ?_
  refine q16 2 _ (.p (.d (.sl 1 l.length (rowI (orderR l))))) rfl (j50 rfl fun i hi => ?_) ?_
  ·unfold rowN rowI
   rw [q146 hy hy2 i hi]
  refine q10 ⟨_, ?_, rfl⟩; rw [Tryz.results99]; simp (disch := omega) only [ResVars, ResVar, ptrLoc, go_sem, seval, hd, cb, ruleD]
theorem z150 (out : List Cube) (c : Cube) (i : Nat) (hlt : i < out.length + 1) : catF out.length (rowC out) (fun i => [cb c].getD i []) i = rowC (out ++ [c]) i := by
 unfold catF rowC
 by_cases h : i < out.length
 ·rw [if_pos h, List.getD_eq_getElem?_getD, List.getD_eq_getElem?_getD, List.getElem?_append_left h]
 ·have : i = out.length := by omega
  subst this
  simp
structure LessS where
 k : Nat
 out : List Cube
 r : Cube
def lessI (a b : Cube) (L : List Cube) (s : {s : LessS // s.k ≤ 128 ∧ s.out.length + s.k ≤ 128 ∧ s.out ++ lessGo b (b.c &&& ~~~a.c) s.k s.r = L}) : ASt :=
 ⟨[(10, .p (.d (.v (.int .i64 ((s.val.k : Int) - 1))))), (9, .loc 9 0), (8, .loc 8 0), (7, .gr 7 s.val.out.length 4 s.val.out.length (rowC s.val.out)), (4, .p (.d (.v (.slice none 0 0)))), (3, .p (.d (.bx (cb b)))), (2, .p (.d (.bx (cb a))))],
  [(9, .cells 53 [.p (.d (.v (.int .u64 (hi s.val.r.v)))), .p (.d (.v (.int .u64 (lo s.val.r.v)))), .p (.d (.v (.int .u64 (hi s.val.r.c)))), .p (.d (.v (.int .u64 (lo s.val.r.c))))]),
  (8, .cells 25 [.p (.d (.v (.int .u64 (hi (b.c &&& ~~~a.c))))), .p (.d (.v (.int .u64 (lo (b.c &&& ~~~a.c)))))]), (7, .grow 53 4 s.val.out.length s.val.out.length)]⟩
set_option maxHeartbeats 1000000 in
theorem x150 (a b : Cube) (L : List Cube) (hL : lessL a b = L) : ACalls Tryz.prog 105 [.agg (cb a), .agg (cb b)] (· = [.d (.sl 4 L.length (rowC L))]) := by
 unfold lessL at hL
 cases h : a.sound
 ·simp only [h, Bool.false_and, Bool.false_eq_true, if_false] at hL
  subst hL
  refine z12 Tryz.func105 rfl (by decide +kernel) (by rw [Tryz.ntmps105]; simp) ?_; rw [Tryz.ntmps105]; simp only [frOf]
  (repeat refine j0 ?_); (first | refine j4 fun K hK => ?_ | refine x5 fun K hK => ?_); (first | refine z10 [] _ _ ?_ | refine x10 [] _ _ _ ?_); simp (disch := omega) only [go_sem, seval, hd, cb, x9, j9, x12, j12, h]; (repeat refine ⟨by omega, ?_⟩); (first | (refine x4 (hK _ ?_); clear hK K; show AWP _ _ _ _ _) | (refine x6 (hK _ _ j5 ?_); clear hK K; show AWP _ _ _ _ _))
  (repeat refine j0 ?_); (first | refine j4 fun K hK => ?_ | refine x5 fun K hK => ?_)
  (first | refine z10 [] _ _ ?_ | refine x10 [] _ _ _ ?_); simp (disch := omega) only [go_sem, seval, hd, cb, x9, j9, x12, j12, h]; (repeat refine ⟨by omega, ?_⟩)
  (first | refine j10 rfl rfl rfl ?_ | refine q11 rfl rfl rfl ?_); simp (disch := omega) only [go_sem, seval, hd, cb, x9, j9, x12, j12, h]
  refine ⟨_, z18 a, ?_⟩
  (first | refine z10 [] _ _ ?_ | refine x10 [] _ _ _ ?_); simp (disch := omega) only [go_sem, seval, hd, cb, x9, j9, x12, j12, h]; (repeat refine ⟨by omega, ?_⟩)
  (first | (refine x4 (hK _ ?_); clear hK K; show AWP _ _ _ _ _) | (refine x6 (hK _ _ j5 ?_); clear hK K; show AWP _ _ _ _ _))
  (repeat refine j0 ?_); refine j14 rfl (fun _ => ?_) (fun ht => absurd ht (by decide))
  (repeat refine j0 ?_); (first | refine j4 fun K hK => ?_ | refine x5 fun K hK => ?_); (first | refine z10 [] _ _ ?_ | refine x10 [] _ _ _ ?_); simp (disch := omega) only [go_sem, seval, hd, cb, x9, j9, x12, j12, h]; (repeat refine ⟨by omega, ?_⟩); (first | (refine x4 (hK _ ?_); clear hK K; show AWP _ _ _ _ _) | (refine x6 (hK _ _ j5 ?_); clear hK K; show AWP _ _ _ _ _))
  refine q16 4 _ (.p (.d (.sl 4 0 (rowC [])))) rfl (z25 4 _ _ rfl) ?_
  refine q10 ⟨_, ?_, rfl⟩; rw [Tryz.results105]; simp (disch := omega) only [ResVars, ResVar, ptrLoc, go_sem, seval, hd, cb, x9, j9, x12, j12, h]
 ·cases h2 : b.sound
  ·simp only [h, h2, Bool.and_false, Bool.false_eq_true, if_false] at hL
   subst hL
   refine z12 Tryz.func105 rfl (by decide +kernel) (by rw [Tryz.ntmps105]; simp) ?_; rw [Tryz.ntmps105]; simp only [frOf]
   (repeat refine j0 ?_); (first | refine j4 fun K hK => ?_ | refine x5 fun K hK => ?_); (first | refine z10 [] _ _ ?_ | refine x10 [] _ _ _ ?_); simp (disch := omega) only [go_sem, seval, hd, cb, x9, j9, x12, j12, h, h2]; (repeat refine ⟨by omega, ?_⟩); (first | (refine x4 (hK _ ?_); clear hK K; show AWP _ _ _ _ _) | (refine x6 (hK _ _ j5 ?_); clear hK K; show AWP _ _ _ _ _))
   (repeat refine j0 ?_); (first | refine j4 fun K hK => ?_ | refine x5 fun K hK => ?_)
   (first | refine z10 [] _ _ ?_ | refine x10 [] _ _ _ ?_); simp (disch := omega) only [go_sem, seval, hd, cb, x9, j9, x12, j12, h, h2]; (repeat refine ⟨by omega, ?_⟩)
   (first | refine j10 rfl rfl rfl ?_ | refine q11 rfl rfl rfl ?_); simp (disch := omega) only [go_sem, seval, hd, cb, x9, j9, x12, j12, h, h2]
   refine ⟨_, z18 a, ?_⟩
   (first | refine z10 [] _ _ ?_ | refine x10 [] _ _ _ ?_); simp (disch := omega) only [go_sem, seval, hd, cb, x9, j9, x12, j12, h, h2]; (repeat refine ⟨by omega, ?_⟩)
   (first | refine j10 rfl rfl rfl ?_ | refine q11 rfl rfl rfl ?_); simp (disch := omega) only [go_sem, seval, hd, cb, x9, j9, x12, j12, h, h2]
   refine ⟨_, z18 b, ?_⟩
   (first | refine z10 [] _ _ ?_ | refine x10 [] _ _ _ ?_); simp (disch := omega) only [go_sem, seval, hd, cb, x9, j9, x12, j12, h, h2]; (repeat refine ⟨by omega, ?_⟩)
   (first | (refine x4 (hK _ ?_); clear hK K; show AWP _ _ _ _ _) | (refine x6 (hK _ _ j5 ?_); clear hK K; show AWP _ _ _ _ _))
   (repeat refine j0 ?_); refine j14 rfl (fun _ => ?_) (fun ht => absurd ht (by decide))
   (repeat refine j0 ?_); (first | refine j4 fun K hK => ?_ | refine x5 fun K hK => ?_); (first | refine z10 [] _ _ ?_ | refine x10 [] _ _ _ ?_); simp (disch := omega) only [go_sem, seval, hd, cb, x9, j9, x12, j12, h, h2]; (repeat refine ⟨by omega, ?_⟩); (first | (refine x4 (hK _ ?_); clear hK K; show AWP _ _ _ _ _) | (refine x6 (hK _ _ j5 ?_); clear hK K; show AWP _ _ _ _ _))
   refine q16 4 _ (.p (.d (.sl 4 0 (rowC [])))) rfl (z25 4 _ _ rfl) ?_
   refine q10 ⟨_, ?_, rfl⟩; rw [Tryz.results105]; simp (disch := omega) only [ResVars, ResVar, ptrLoc, go_sem, seval, hd, cb, x9, j9, x12, j12, h, h2]
  ·cases h3 : meetO a b
   all_goals
    simp only [h, h2, h3, Bool.and_self, Bool.false_eq_true, if_false, if_true] at hL
    refine z12 Tryz.func105 rfl (by decide +kernel) (by rw [Tryz.ntmps105]; simp) ?_; rw [Tryz.ntmps105]; simp only [frOf]
    (repeat refine j0 ?_); (first | refine j4 fun K hK => ?_ | refine x5 fun K hK => ?_); (first | refine z10 [] _ _ ?_ | refine x10 [] _ _ _ ?_); simp (disch := omega) only [go_sem, seval, hd, cb, x9, j9, x12, j12, h, h2, h3]; (repeat refine ⟨by omega, ?_⟩); (first | (refine x4 (hK _ ?_); clear hK K; show AWP _ _ _ _ _) | (refine x6 (hK _ _ j5 ?_); clear hK K; show AWP _ _ _ _ _))
    (repeat refine j0 ?_); (first | refine j4 fun K hK => ?_ | refine x5 fun K hK => ?_)
    (first | refine z10 [] _ _ ?_ | refine x10 [] _ _ _ ?_); simp (disch := omega) only [go_sem, seval, hd, cb, x9, j9, x12, j12, h, h2, h3]; (repeat refine ⟨by omega, ?_⟩)
    (first | refine j10 rfl rfl rfl ?_ | refine q11 rfl rfl rfl ?_); simp (disch := omega) only [go_sem, seval, hd, cb, x9, j9, x12, j12, h, h2, h3]
    refine ⟨_, z18 a, ?_⟩
    (first | refine z10 [] _ _ ?_ | refine x10 [] _ _ _ ?_); simp (disch := omega) only [go_sem, seval, hd, cb, x9, j9, x12, j12, h, h2, h3]; (repeat refine ⟨by omega, ?_⟩)
    (first | refine j10 rfl rfl rfl ?_ | refine q11 rfl rfl rfl ?_); simp (disch := omega) only [go_sem, seval, hd, cb, x9, j9, x12, j12, h, h2, h3]
    refine ⟨_, z18 b, ?_⟩
    (first | refine z10 [] _ _ ?_ | refine x10 [] _ _ _ ?_); simp (disch := omega) only [go_sem, seval, hd, cb, x9, j9, x12, j12, h, h2, h3]; (repeat refine ⟨by omega, ?_⟩)
    (first | (refine x4 (hK _ ?_); clear hK K; show AWP _ _ _ _ _) | (refine x6 (hK _ _ j5 ?_); clear hK K; show AWP _ _ _ _ _))
    (repeat refine j0 ?_); refine j14 rfl (fun ht => absurd ht (by decide)) (fun _ => ?_); refine j6 ?_; show AWP _ _ _ _ _
    (repeat refine j0 ?_); (first | refine j4 fun K hK => ?_ | refine x5 fun K hK => ?_)
    (first | refine z10 [] _ _ ?_ | refine x10 [] _ _ _ ?_); simp (disch := omega) only [go_sem, seval, hd, cb, x9, j9, x12, j12, h, h2, h3]; (repeat refine ⟨by omega, ?_⟩)
    (first | refine j10 rfl rfl rfl ?_ | refine q11 rfl rfl rfl ?_); simp (disch := omega) only [go_sem, seval, hd, cb, x9, j9, x12, j12, h, h2, h3]
    refine ⟨_, x93 a b, ?_⟩
    (first | refine z10 [] _ _ ?_ | refine x10 [] _ _ _ ?_); simp (disch := omega) only [go_sem, seval, hd, cb, x9, j9, x12, j12, h, h2, h3]; (repeat refine ⟨by omega, ?_⟩)
    (first | (refine x4 (hK _ ?_); clear hK K; show AWP _ _ _ _ _) | (refine x6 (hK _ _ j5 ?_); clear hK K; show AWP _ _ _ _ _))
    (repeat refine j0 ?_); (first | refine j4 fun K hK => ?_ | refine x5 fun K hK => ?_); (first | refine z10 [] _ _ ?_ | refine x10 [] _ _ _ ?_); simp (disch := omega) only [go_sem, seval, hd, cb, x9, j9, x12, j12, h, h2, h3]; (repeat refine ⟨by omega, ?_⟩); (first | (refine x4 (hK _ ?_); clear hK K; show AWP _ _ _ _ _) | (refine x6 (hK _ _ j5 ?_); clear hK K; show AWP _ _ _ _ _))
   ·(repeat refine j0 ?_); refine j14 rfl (fun _ => ?_) (fun ht => absurd ht (by decide))
    (repeat refine j0 ?_); (first | refine j4 fun K hK => ?_ | refine x5 fun K hK => ?_); (first | refine z10 [] _ _ ?_ | refine x10 [] _ _ _ ?_); simp (disch := omega) only [go_sem, seval, hd, cb, x9, j9, x12, j12, h, h2, h3]; (repeat refine ⟨by omega, ?_⟩); (first | (refine x4 (hK _ ?_); clear hK K; show AWP _ _ _ _ _) | (refine x6 (hK _ _ j5 ?_); clear hK K; show AWP _ _ _ _ _))
    subst hL
    refine q16 4 _ _ rfl (j50 (n' := 1) (f' := rowC [a]) rfl (fun i hlt => ?_)) ?_
    ·have : i = 0 := by omega
     subst this; rfl
    refine q10 ⟨_, ?_, rfl⟩; rw [Tryz.results105]; simp (disch := omega) only [ResVars, ResVar, ptrLoc, go_sem, seval, hd, cb, x9, j9, x12, j12, h, h2, h3]
   ·(repeat refine j0 ?_); refine j14 rfl (fun ht => absurd ht (by decide)) (fun _ => ?_); refine j6 ?_; show AWP _ _ _ _ _
    (repeat refine j0 ?_); (first | refine j4 fun K hK => ?_ | refine x5 fun K hK => ?_); (first | refine z10 [] _ _ ?_ | refine x10 [] _ _ _ ?_); simp (disch := omega) only [go_sem, seval, hd, cb, x9, j9, x12, j12, h, h2, h3]; (repeat refine ⟨by omega, ?_⟩); (first | (refine x4 (hK _ ?_); clear hK K; show AWP _ _ _ _ _) | (refine x6 (hK _ _ j5 ?_); clear hK K; show AWP _ _ _ _ _))
    (repeat refine j0 ?_); (first | refine j4 fun K hK => ?_ | refine x5 fun K hK => ?_)
    (first | refine z10 [] _ _ ?_ | refine x10 [] _ _ _ ?_); simp (disch := omega) only [go_sem, seval, hd, cb, x9, j9, x12, j12, h, h2, h3]; (repeat refine ⟨by omega, ?_⟩)
    (first | refine j10 rfl rfl rfl ?_ | refine q11 rfl rfl rfl ?_); simp (disch := omega) only [go_sem, seval, hd, cb, x9, j9, x12, j12, h, h2, h3]
    refine ⟨_, j54 b.c a.c, ?_⟩
    (first | refine z10 [] _ _ ?_ | refine x10 [] _ _ _ ?_); simp (disch := omega) only [go_sem, seval, hd, cb, x9, j9, x12, j12, h, h2, h3]; (repeat refine ⟨by omega, ?_⟩)
    (first | (refine x4 (hK _ ?_); clear hK K; show AWP _ _ _ _ _) | (refine x6 (hK _ _ j5 ?_); clear hK K; show AWP _ _ _ _ _))
    (repeat refine j0 ?_); (first | refine j4 fun K hK => ?_ | refine x5 fun K hK => ?_); (first | refine z10 [] _ _ ?_ | refine x10 [] _ _ _ ?_); simp (disch := omega) only [go_sem, seval, hd, cb, x9, j9, x12, j12, h, h2, h3]; (repeat refine ⟨by omega, ?_⟩); (first | (refine x4 (hK _ ?_); clear hK K; show AWP _ _ _ _ _) | (refine x6 (hK _ _ j5 ?_); clear hK K; show AWP _ _ _ _ _))
    (repeat refine j0 ?_); (first | refine j4 fun K hK => ?_ | refine x5 fun K hK => ?_); (first | refine z10 [] _ _ ?_ | refine x10 [] _ _ _ ?_); simp (disch := omega) only [go_sem, seval, hd, cb, x9, j9, x12, j12, h, h2, h3]; (repeat refine ⟨by omega, ?_⟩); (first | (refine x4 (hK _ ?_); clear hK K; show AWP _ _ _ _ _) | (refine x6 (hK _ _ j5 ?_); clear hK K; show AWP _ _ _ _ _))
    refine x31 7 7 4 53 (rowC []) rfl (by kernel_rfl) rfl ?_
    refine x7 (x13 (lessI a b L) (fun s => s.val.k) ⟨⟨128, [], a⟩, by simp, by simp, by rw [List.nil_append]; exact hL⟩ ?_ (fun s => ?_))
    ·unfold lessI
     refine Weak.list ?_ ?_; (all_goals simp (disch := omega) only [AllF, AllL, x11, j11, z11, exists_eq_left', go_sem, seval, hd, cb, x9, j9, x12, j12, h, h2, h3]); (all_goals (repeat' (with_reducible apply And.intro))); (all_goals try (first | exact q9 rfl | (refine q12 ?_; omega) | (refine q9 ?_; simp; done)))
    obtain ⟨⟨k, out, r⟩, hk, hl, he⟩ := s
    unfold lessI
    simp only [] at hk hl he
    cases k with
    |zero =>
     (repeat refine j0 ?_); (first | refine j4 fun K hK => ?_ | refine x5 fun K hK => ?_); (first | refine z10 [] _ _ ?_ | refine x10 [] _ _ _ ?_); simp (disch := omega) only [go_sem, seval, hd, cb, x9, j9, x12, j12, h, h2, h3]; (repeat refine ⟨by omega, ?_⟩); (first | (refine x4 (hK _ ?_); clear hK K; show AWP _ _ _ _ _) | (refine x6 (hK _ _ j5 ?_); clear hK K; show AWP _ _ _ _ _))
     refine j14 rfl (fun ht => absurd ht (by decide)) (fun _ => ?_)
     refine z7 ?_
     show AWP _ _ _ _ _
     (repeat refine j0 ?_); (first | refine j4 fun K hK => ?_ | refine x5 fun K hK => ?_); (first | refine z10 [] _ _ ?_ | refine x10 [] _ _ _ ?_); simp (disch := omega) only [go_sem, seval, hd, cb, x9, j9, x12, j12, h, h2, h3]; (repeat refine ⟨by omega, ?_⟩); (first | (refine x4 (hK _ ?_); clear hK K; show AWP _ _ _ _ _) | (refine x6 (hK _ _ j5 ?_); clear hK K; show AWP _ _ _ _ _))
     refine q16 4 _ (.p (.d (.sl 4 L.length (rowC L)))) rfl ?_ ?_
     ·simp only [lessGo, List.append_nil] at he
      rw [← he]
      exact x22 rfl (fun _ _ => rfl)
     refine q10 ⟨_, ?_, rfl⟩; rw [Tryz.results105]; simp (disch := omega) only [ResVars, ResVar, ptrLoc, go_sem, seval, hd, cb, x9, j9, x12, j12, h, h2, h3]
    |succ n =>
     have bit := Bit_c (b.c &&& ~~~a.c) (n : Int)
     rw [if_pos ⟨by omega, by omega⟩, Int.toNat_natCast] at bit
     simp only [cs1]
     cases hb : (b.c &&& ~~~a.c).getLsbD n
     all_goals
      rw [hb] at bit
      (repeat refine j0 ?_); (first | refine j4 fun K hK => ?_ | refine x5 fun K hK => ?_); (first | refine z10 [] _ _ ?_ | refine x10 [] _ _ _ ?_); simp (disch := omega) only [go_sem, seval, hd, cb, x9, j9, x12, j12, h, h2, h3]; (repeat refine ⟨by omega, ?_⟩); (first | (refine x4 (hK _ ?_); clear hK K; show AWP _ _ _ _ _) | (refine x6 (hK _ _ j5 ?_); clear hK K; show AWP _ _ _ _ _))
      (repeat refine j0 ?_); refine j14 rfl (fun _ => ?_) (fun ht => absurd ht (by decide))
      refine j6 ?_; show AWP _ _ _ _ _
      refine j0 (x7 ?_)
      (repeat refine j0 ?_); (first | refine j4 fun K hK => ?_ | refine x5 fun K hK => ?_)
      (first | refine z10 [] _ _ ?_ | refine x10 [] _ _ _ ?_); simp (disch := omega) only [go_sem, seval, hd, cb, x9, j9, x12, j12, h, h2, h3]; (repeat refine ⟨by omega, ?_⟩)
      (first | refine j10 rfl rfl rfl ?_ | refine q11 rfl rfl rfl ?_); simp (disch := omega) only [go_sem, seval, hd, cb, x9, j9, x12, j12, h, h2, h3]
      refine ⟨_, bit, ?_⟩
      (first | refine z10 [] _ _ ?_ | refine x10 [] _ _ _ ?_); simp (disch := omega) only [go_sem, seval, hd, cb, x9, j9, x12, j12, h, h2, h3]; (repeat refine ⟨by omega, ?_⟩)
      (first | (refine x4 (hK _ ?_); clear hK K; show AWP _ _ _ _ _) | (refine x6 (hK _ _ j5 ?_); clear hK K; show AWP _ _ _ _ _))
     ·refine j14 rfl (fun _ => ?_) (fun ht => absurd ht (by decide))
      refine z7 ?_
      show AWP _ _ _ _ _
      (repeat refine j0 ?_); (first | refine j4 fun K hK => ?_ | refine x5 fun K hK => ?_)
      (first | refine z10 [] _ _ ?_ | refine x10 [] _ _ _ ?_); simp (disch := omega) only [go_sem, seval, hd, cb, x9, j9, x12, j12, h, h2, h3]; (repeat refine ⟨by omega, ?_⟩)
      (first | (refine x4 (hK _ ?_); clear hK K; show loopQ _ _ _ _ _ _) | (refine x6 (hK _ _ j5 ?_); clear hK K; show loopQ _ _ _ _ _ _))
      refine ⟨⟨⟨n, out, r⟩, by simp only []; omega, by simp only []; omega, ?_⟩, by simp only []; omega, ?_⟩
      ·simpa [lessGo, hb] using he
      ·refine Weak.list ?_ ?_; (all_goals simp (disch := omega) only [AllF, AllL, x11, j11, z11, exists_eq_left', go_sem, seval, hd, cb, x9, j9, x12, j12, h, h2, h3]); (all_goals (repeat' (with_reducible apply And.intro))); (all_goals try (first | exact q9 rfl | (refine q12 ?_; omega) | (refine q9 ?_; simp; done)))
     ·(repeat refine j0 ?_); refine j14 rfl (fun ht => absurd ht (by decide)) (fun _ => ?_); refine j6 ?_; show AWP _ _ _ _ _
      have mask := Mask_c (n : Int) 1 (by omega)
      obtain ⟨bt, hbt⟩ : ∃ bt, ones 1 <<< n = bt := ⟨_, rfl⟩
      rw [show fieldB (n : Int) 1 128 = true from by simp [fieldB]; omega, if_pos rfl, if_pos rfl, Int.toNat_natCast, show Int.toNat 1 = 1 from rfl, hbt] at mask
      (repeat refine j0 ?_); (first | refine j4 fun K hK => ?_ | refine x5 fun K hK => ?_)
      (first | refine z10 [] _ _ ?_ | refine x10 [] _ _ _ ?_); simp (disch := omega) only [go_sem, seval, hd, cb, x9, j9, x12, j12, h, h2, h3]; (repeat refine ⟨by omega, ?_⟩)
      (first | refine j10 rfl rfl rfl ?_ | refine q11 rfl rfl rfl ?_); simp (disch := omega) only [go_sem, seval, hd, cb, x9, j9, x12, j12, h, h2, h3]
      refine ⟨_, mask, ?_⟩
      (first | refine z10 [] _ _ ?_ | refine x10 [] _ _ _ ?_); simp (disch := omega) only [go_sem, seval, hd, cb, x9, j9, x12, j12, h, h2, h3]; (repeat refine ⟨by omega, ?_⟩)
      (first | (refine x4 (hK _ ?_); clear hK K; show AWP _ _ _ _ _) | (refine x6 (hK _ _ j5 ?_); clear hK K; show AWP _ _ _ _ _))
      (repeat refine j0 ?_); (first | refine j4 fun K hK => ?_ | refine x5 fun K hK => ?_)
      (first | refine z10 [] _ _ ?_ | refine x10 [] _ _ _ ?_); simp (disch := omega) only [go_sem, seval, hd, cb, x9, j9, x12, j12, h, h2, h3]; (repeat refine ⟨by omega, ?_⟩)
      (first | refine j10 rfl rfl rfl ?_ | refine q11 rfl rfl rfl ?_); simp (disch := omega) only [go_sem, seval, hd, cb, x9, j9, x12, j12, h, h2, h3]
      refine ⟨_, And_c b.v _, ?_⟩
      (first | refine z10 [] _ _ ?_ | refine x10 [] _ _ _ ?_); simp (disch := omega) only [go_sem, seval, hd, cb, x9, j9, x12, j12, h, h2, h3]; (repeat refine ⟨by omega, ?_⟩)
      (first | refine j10 rfl rfl rfl ?_ | refine q11 rfl rfl rfl ?_); simp (disch := omega) only [go_sem, seval, hd, cb, x9, j9, x12, j12, h, h2, h3]
      refine ⟨_, Or_c r.v _, ?_⟩
      (first | refine z10 [] _ _ ?_ | refine x10 [] _ _ _ ?_); simp (disch := omega) only [go_sem, seval, hd, cb, x9, j9, x12, j12, h, h2, h3]; (repeat refine ⟨by omega, ?_⟩)
      (first | refine j10 rfl rfl rfl ?_ | refine q11 rfl rfl rfl ?_); simp (disch := omega) only [go_sem, seval, hd, cb, x9, j9, x12, j12, h, h2, h3]
      refine ⟨_, Or_c r.c _, ?_⟩
      (first | refine z10 [] _ _ ?_ | refine x10 [] _ _ _ ?_); simp (disch := omega) only [go_sem, seval, hd, cb, x9, j9, x12, j12, h, h2, h3]; (repeat refine ⟨by omega, ?_⟩)
      (first | (refine x4 (hK _ ?_); clear hK K; show AWP _ _ _ _ _) | (refine x6 (hK _ _ j5 ?_); clear hK K; show AWP _ _ _ _ _))
      (repeat refine j0 ?_); (first | refine j4 fun K hK => ?_ | refine x5 fun K hK => ?_)
      (first | refine z10 [] _ _ ?_ | refine x10 [] _ _ _ ?_); simp (disch := omega) only [go_sem, seval, hd, cb, x9, j9, x12, j12, h, h2, h3]; (repeat refine ⟨by omega, ?_⟩)
      (first | refine j10 rfl rfl rfl ?_ | refine q11 rfl rfl rfl ?_); simp (disch := omega) only [go_sem, seval, hd, cb, x9, j9, x12, j12, h, h2, h3]
      refine ⟨_, Xor_c _ _, ?_⟩
      (first | refine z10 [] _ _ ?_ | refine x10 [] _ _ _ ?_); simp (disch := omega) only [go_sem, seval, hd, cb, x9, j9, x12, j12, h, h2, h3]; (repeat refine ⟨by omega, ?_⟩)
      (first | (refine x4 (hK _ ?_); clear hK K; show AWP _ _ _ _ _) | (refine x6 (hK _ _ j5 ?_); clear hK K; show AWP _ _ _ _ _))
      (repeat refine j0 ?_); (first | refine j4 fun K hK => ?_ | refine x5 fun K hK => ?_); (first | refine z10 [] _ _ ?_ | refine x10 [] _ _ _ ?_); simp (disch := omega) only [go_sem, seval, hd, cb, x9, j9, x12, j12, h, h2, h3]; (repeat refine ⟨by omega, ?_⟩); (first | (refine x4 (hK _ ?_); clear hK K; show AWP _ _ _ _ _) | (refine x6 (hK _ _ j5 ?_); clear hK K; show AWP _ _ _ _ _))
      (repeat refine j0 ?_); (first | refine j4 fun K hK => ?_ | refine x5 fun K hK => ?_)
      (first | refine z10 [] _ _ ?_ | refine x10 [] _ _ _ ?_); simp (disch := omega) only [go_sem, seval, hd, cb, x9, j9, x12, j12, h, h2, h3]; (repeat refine ⟨by omega, ?_⟩)
      (first | (refine x4 (hK _ ?_); clear hK K; show loopQ _ _ _ _ _ _) | (refine x6 (hK _ _ j5 ?_); clear hK K; show loopQ _ _ _ _ _ _))
      refine ⟨⟨⟨n, out ++ [⟨(r.v ||| b.v &&& bt) ^^^ bt, r.c ||| bt⟩], ⟨r.v ||| b.v &&& bt, r.c ||| bt⟩⟩, by simp only []; omega, by simp; omega, ?_⟩, by simp only []; omega, ?_⟩
      ·simpa [lessGo, hb, hbt] using he
      ·refine Weak.list ?_ ?_; (all_goals simp (disch := omega) only [AllF, AllL, x11, j11, z11, exists_eq_left', go_sem, seval, hd, cb, x9, j9, x12, j12, h, h2, h3]); (all_goals (repeat' (with_reducible apply And.intro))); (all_goals try (first | exact q9 rfl | (refine q12 ?_; omega) | (refine q9 ?_; simp; done)))
       ·exact q31 (by simp) (by simp) (fun i hlt => z150 out ⟨(r.v ||| b.v &&& bt) ^^^ bt, r.c ||| bt⟩ i hlt)
       ·exact ⟨rfl, rfl, by simp, by simp⟩
theorem j150 (a b : Cube) : ACalls Tryz.prog 105 [.agg (cb a), .agg (cb b)] (· = [.d (.sl 4 (lessL a b).length (rowC (lessL a b)))]) := x150 a b _ rfl
theorem q29 (L : List Cube) (i : Nat) : rowC L i = cb (L.getD i ⟨0, 0⟩) := rfl
def idxF {α : Type} (p : α → Bool) : List α → Nat → Int
 | [], _ => -1
 | x :: r, k => if p x then (k : Int) else idxF p r (k + 1)
theorem x69 {α : Type} (p : α → Bool) : ∀ (l : List α) (k : Nat), decide (idxF p l k ≥ 0) = l.any p
 | [], k => rfl
 |x :: r, k => by
  unfold idxF
  cases h : p x
  ·simp only [Bool.false_eq_true, if_false, List.any_cons, h, Bool.false_or]; exact x69 p r (k + 1)
  ·simp only [if_true, List.any_cons, h, Bool.true_or]; exact decide_eq_true (by omega)
def indexI (l : List Cube) (g : FuncId) (caps : List PV) (p : Cube → Bool) (R : Int) (s : {i : Nat // i ≤ l.length ∧ idxF p (l.drop i) i = R}) : ASt :=
 ⟨[(8, .p (.d (.v (.int .i64 (s.val : Int))))), (7, .p (.d (.v (.int .i64 (l.length : Int))))), (1, .p (.fn (.func g) [] caps)), (0, .p (.d (.sl 4 l.length (rowC l))))], []⟩
theorem q151 (g : FuncId) (caps : List PV) (p : Cube → Bool) (l : List Cube) (hl : l.length ≤ 140737488355328) (hp : ∀ k ∈ l, ACalls Tryz.prog g (.agg (cb k) :: caps) (· = [.d (.v (.bool (p k)))])) :
  ACalls Tryz.prog 84 [.d (.sl 4 l.length (rowC l)), .fn (.func g) [] caps] (· = [.d (.v (.int .i64 (idxF p l 0)))]) := by
 obtain ⟨R, hR⟩ : ∃ R, idxF p l 0 = R := ⟨_, rfl⟩
 rw [hR]
 refine z12 Tryz.func84 rfl (by decide +kernel) (by rw [Tryz.ntmps84]; simp) ?_; rw [Tryz.ntmps84]; simp only [frOf]
 (repeat (first | apply j0 | refine q8 rfl ?_ | refine z8 rfl ?_ | apply x7 | (refine j4 fun K hK => ?_) | (refine x5 fun K hK => ?_) | ((first | apply j6 | apply z7 | ((first | refine x4 (hK _ ?_) | refine x6 (hK _ _ j5 ?_)); clear hK K)); (first | show AWP _ _ _ _ _ | ((try simp only [j7]); first | show loopQ _ _ _ _ _ _ | show cutQ _ _ _ _ | show AWP _ _ _ _ _))) | ((first | refine x8 [] rfl ?_ | refine j8 [] rfl ?_); simp (disch := omega) only [go_sem, seval, hd, cb, x9, j9]; (repeat (first | refine ⟨by omega, ?_⟩ | refine ⟨True.intro, ?_⟩)))))
 refine x13 (indexI l g caps p R) (fun s => l.length - s.val) ⟨0, by omega, by rw [List.drop_zero]; exact hR⟩ ?_ (fun s => ?_)
 ·unfold indexI
  refine Weak.list ?_ ?_; (all_goals simp (disch := omega) only [AllF, AllL, x11, j11, z11, exists_eq_left', go_sem, seval, hd, cb, x9, j9]); (all_goals (repeat' (with_reducible apply And.intro))); (all_goals try (first | exact q9 rfl | (refine q12 ?_; omega) | (refine q9 ?_; simp; done)))
 obtain ⟨i, hi, he⟩ := s
 unfold indexI
 by_cases hn : i < l.length
 ·rw [j31 l i ⟨0, 0⟩ hn] at he
  have r1 := q29 l i
  have hk := hp _ (z24 hn ⟨0, 0⟩)
  generalize l.getD i ⟨0, 0⟩ = K at he r1 hk
  unfold idxF at he
  cases hb : p K
  all_goals
   rw [hb] at he hk
   simp only [Bool.false_eq_true, if_false, if_true] at he
   (repeat (first | apply j0 | refine q8 rfl ?_ | refine z8 rfl ?_ | apply x7 | (refine j4 fun K hK => ?_) | (refine x5 fun K hK => ?_) | ((first | apply j6 | apply z7 | ((first | refine x4 (hK _ ?_) | refine x6 (hK _ _ j5 ?_)); clear hK K)); (first | show AWP _ _ _ _ _ | ((try simp only [j7]); first | show loopQ _ _ _ _ _ _ | show cutQ _ _ _ _ | show AWP _ _ _ _ _))) | ((first | refine j10 rfl rfl rfl ?_ | refine q11 rfl rfl rfl ?_); simp (disch := omega) only [go_sem, seval, hd, cb, x9, j9, r1]; (first | refine ⟨_, hk, ?_⟩)) | ((first | refine x8 [] rfl ?_ | refine j8 [] rfl ?_); simp (disch := omega) only [go_sem, seval, hd, cb, x9, j9, r1]; (repeat (first | refine ⟨by omega, ?_⟩ | refine ⟨True.intro, ?_⟩)))))
  ·refine ⟨⟨i + 1, by omega, he⟩, by simp only []; omega, ?_⟩
   refine Weak.list ?_ ?_; (all_goals simp (disch := omega) only [AllF, AllL, x11, j11, z11, exists_eq_left', go_sem, seval, hd, cb, x9, j9, r1]); (all_goals (repeat' (with_reducible apply And.intro))); (all_goals try (first | exact q9 rfl | (refine q12 ?_; omega) | (refine q9 ?_; simp; done)))
  ·refine q10 ⟨_, ?_, rfl⟩; rw [Tryz.results84]; simp (disch := omega) only [ResVars, ResVar, ptrLoc, go_sem, seval, hd, cb, x9, j9, r1]
   rw [he]
 ·have : i = l.length := by omega
  subst this
  rw [List.drop_length] at he
  unfold idxF at he
  (repeat (first | apply j0 | refine q8 rfl ?_ | refine z8 rfl ?_ | apply x7 | (refine j4 fun K hK => ?_) | (refine x5 fun K hK => ?_) | ((first | apply j6 | apply z7 | ((first | refine x4 (hK _ ?_) | refine x6 (hK _ _ j5 ?_)); clear hK K)); (first | show AWP _ _ _ _ _ | ((try simp only [j7]); first | show loopQ _ _ _ _ _ _ | show cutQ _ _ _ _ | show AWP _ _ _ _ _))) | ((first | refine x8 [] rfl ?_ | refine j8 [] rfl ?_); simp (disch := omega) only [go_sem, seval, hd, cb, x9, j9]; (repeat (first | refine ⟨by omega, ?_⟩ | refine ⟨True.intro, ?_⟩)))))
  refine q10 ⟨_, ?_, rfl⟩; rw [Tryz.results84]; simp (disch := omega) only [ResVars, ResVar, ptrLoc, go_sem, seval, hd, cb, x9, j9]
  rw [he]
theorem z151 (g : FuncId) (caps : List PV) (p : Cube → Bool) (l : List Cube) (hl : l.length ≤ 140737488355328) (hp : ∀ k ∈ l, ACalls Tryz.prog g (.agg (cb k) :: caps) (· = [.d (.v (.bool (p k)))])) :
  ACalls Tryz.prog 40 [.d (.sl 4 l.length (rowC l)), .fn (.func g) [] caps] (· = [.d (.v (.bool (l.any p)))]) := by
 have ix := q151 g caps p l hl hp
 have ia := x69 p l 0
 generalize idxF p l 0 = R at ix ia
 refine z12 Tryz.func40 rfl (by decide +kernel) (by rw [Tryz.ntmps40]; simp) ?_; rw [Tryz.ntmps40]; simp only [frOf]
 (repeat (first | apply j0 | refine q8 rfl ?_ | refine z8 rfl ?_ | apply x7 | (refine j4 fun K hK => ?_) | (refine x5 fun K hK => ?_) | ((first | apply j6 | apply z7 | ((first | refine x4 (hK _ ?_) | refine x6 (hK _ _ j5 ?_)); clear hK K)); (first | show AWP _ _ _ _ _ | ((try simp only [j7]); first | show loopQ _ _ _ _ _ _ | show cutQ _ _ _ _ | show AWP _ _ _ _ _))) | ((first | refine j10 rfl rfl rfl ?_ | refine q11 rfl rfl rfl ?_); simp (disch := omega) only [go_sem, seval, hd, cb, x9, j9]; (first | refine ⟨_, ix, ?_⟩)) | ((first | refine x8 [] rfl ?_ | refine j8 [] rfl ?_); simp (disch := omega) only [go_sem, seval, hd, cb, x9, j9]; (repeat (first | refine ⟨by omega, ?_⟩ | refine ⟨True.intro, ?_⟩)))))
 refine q10 ⟨_, ?_, rfl⟩; rw [Tryz.results40]; simp (disch := omega) only [ResVars, ResVar, ptrLoc, go_sem, seval, hd, cb, x9, j9]
 rw [ia]
theorem x151 (k : Cube) : ACalls Tryz.prog 134 [.agg (cb k)] (· = [.d (.v (.bool (!k.sound)))]) := by
 refine z12 Tryz.func134 rfl (by decide +kernel) (by rw [Tryz.ntmps134]; simp) ?_; rw [Tryz.ntmps134]; simp only [frOf]
 (repeat (first | apply j0 | refine q8 rfl ?_ | refine z8 rfl ?_ | apply x7 | (refine j4 fun K hK => ?_) | (refine x5 fun K hK => ?_) | ((first | apply j6 | apply z7 | ((first | refine x4 (hK _ ?_) | refine x6 (hK _ _ j5 ?_)); clear hK K)); (first | show AWP _ _ _ _ _ | ((try simp only [j7]); first | show loopQ _ _ _ _ _ _ | show cutQ _ _ _ _ | show AWP _ _ _ _ _))) | ((first | refine j10 rfl rfl rfl ?_ | refine q11 rfl rfl rfl ?_); simp (disch := omega) only [go_sem, seval, hd, cb, x9, j9]; (first | refine ⟨_, z18 k, ?_⟩)) | ((first | refine x8 [] rfl ?_ | refine j8 [] rfl ?_); simp (disch := omega) only [go_sem, seval, hd, cb, x9, j9]; (repeat (first | refine ⟨by omega, ?_⟩ | refine ⟨True.intro, ?_⟩)))))
 refine q10 ⟨_, ?_, rfl⟩; rw [Tryz.results134]; simp (disch := omega) only [ResVars, ResVar, ptrLoc, go_sem, seval, hd, cb, x9, j9]
def soundP (l : List Cube) : Bool := decide (l.length ≤ 200) && l.all Cube.sound
theorem any_not {α : Type} (p : α → Bool) (l : List α) : (l.any fun x => !p x) = !l.all p := by
 induction l with
 | nil => rfl
 | cons x l ih => simp only [List.any_cons, List.all_cons, ih, Bool.not_and]
theorem j97 (l : List Cube) (hl : l.length ≤ 140737488355328) : ACalls Tryz.prog 93 [.d (.sl 4 l.length (rowC l))] (· = [.d (.v (.bool (soundP l)))]) := by
 have cf := z151 134 [] (fun k => !k.sound) l hl (fun k _ => x151 k)
 rw [any_not] at cf
 unfold soundP
 by_cases h : l.length ≤ 200
 ·rw [decide_eq_true h, Bool.true_and]
  refine z12 Tryz.func93 rfl (by decide +kernel) (by rw [Tryz.ntmps93]; simp) ?_; rw [Tryz.ntmps93]; simp only [frOf]
  (repeat (first | apply j0 | refine q8 rfl ?_ | refine z8 rfl ?_ | apply x7 | (refine j4 fun K hK => ?_) | (refine x5 fun K hK => ?_) | ((first | apply j6 | apply z7 | ((first | refine x4 (hK _ ?_) | refine x6 (hK _ _ j5 ?_)); clear hK K)); (first | show AWP _ _ _ _ _ | ((try simp only [j7]); first | show loopQ _ _ _ _ _ _ | show cutQ _ _ _ _ | show AWP _ _ _ _ _))) | ((first | refine j10 rfl rfl rfl ?_ | refine q11 rfl rfl rfl ?_); simp (disch := omega) only [go_sem, seval, hd, cb, x9, j9]; (first | refine ⟨_, cf, ?_⟩)) | ((first | refine x8 [] rfl ?_ | refine j8 [] rfl ?_); simp (disch := omega) only [go_sem, seval, hd, cb, x9, j9]; (repeat (first | refine ⟨by omega, ?_⟩ | refine ⟨True.intro, ?_⟩)))))
  refine q10 ⟨_, ?_, rfl⟩; rw [Tryz.results93]; simp (disch := omega) only [ResVars, ResVar, ptrLoc, go_sem, seval, hd, cb, x9, j9]
  rw [Bool.not_not]
 ·rw [decide_eq_false h, Bool.false_and]
  refine z12 Tryz.func93 rfl (by decide +kernel) (by rw [Tryz.ntmps93]; simp) ?_; rw [Tryz.ntmps93]; simp only [frOf]
  (repeat (first | apply j0 | refine q8 rfl ?_ | refine z8 rfl ?_ | apply x7 | (refine j4 fun K hK => ?_) | (refine x5 fun K hK => ?_) | ((first | apply j6 | apply z7 | ((first | refine x4 (hK _ ?_) | refine x6 (hK _ _ j5 ?_)); clear hK K)); (first | show AWP _ _ _ _ _ | ((try simp only [j7]); first | show loopQ _ _ _ _ _ _ | show cutQ _ _ _ _ | show AWP _ _ _ _ _))) | ((first | refine j10 rfl rfl rfl ?_ | refine q11 rfl rfl rfl ?_); simp (disch := omega) only [go_sem, seval, hd, cb, x9, j9]; (first | refine ⟨_, cf, ?_⟩)) | ((first | refine x8 [] rfl ?_ | refine j8 [] rfl ?_); simp (disch := omega) only [go_sem, seval, hd, cb, x9, j9]; (repeat (first | refine ⟨by omega, ?_⟩ | refine ⟨True.intro, ?_⟩)))))
  refine q10 ⟨_, ?_, rfl⟩; rw [Tryz.results93]; simp (disch := omega) only [ResVars, ResVar, ptrLoc, go_sem, seval, hd, cb, x9, j9]
def hasP (l : List Cube) (h : BitVec 128) : Bool := l.any (hasC · h)
theorem q98 (n : Nat) (f : Nat → List Dat) (hn : n ≤ 140737488355328) : ACalls Tryz.prog 62 [.d (.sl 4 n f)] (· = [.d (.sl 4 n f)]) := by
 refine z12 Tryz.func62 rfl (by decide +kernel) (by rw [Tryz.ntmps62]; simp) ?_; rw [Tryz.ntmps62]; simp only [frOf]
 (repeat (first | apply j0 | refine q8 rfl ?_ | refine z8 rfl ?_ | apply x7 | (refine j4 fun K hK => ?_) | (refine x5 fun K hK => ?_) | ((first | apply j6 | apply z7 | ((first | refine x4 (hK _ ?_) | refine x6 (hK _ _ j5 ?_)); clear hK K)); (first | show AWP _ _ _ _ _ | ((try simp only [j7]); first | show loopQ _ _ _ _ _ _ | show cutQ _ _ _ _ | show AWP _ _ _ _ _))) | ((first | refine x8 [] rfl ?_ | refine j8 [] rfl ?_); simp (disch := omega) only [go_sem, seval, hd, cb, x9, j9]; (repeat (first | refine ⟨by omega, ?_⟩ | refine ⟨True.intro, ?_⟩)))))
 refine q10 ⟨_, ?_, rfl⟩; rw [Tryz.results62]; simp (disch := omega) only [ResVars, ResVar, ptrLoc, go_sem, seval, hd, cb, x9, j9]
 rfl
def spareBy (l : List Cube) (n i : Nat) : Bool := i != n && (withinC (l.getD n ⟨0, 0⟩) (l.getD i ⟨0, 0⟩) && (l.getD n ⟨0, 0⟩ != l.getD i ⟨0, 0⟩ || decide (i < n)))
def spareP (l : List Cube) (n : Nat) : Bool := (List.range l.length).any (spareBy l n) || !(l.getD n ⟨0, 0⟩).sound
theorem z98 (a b : Cube) : eqI [hi a.v, lo a.v, hi a.c, lo a.c] [hi b.v, lo b.v, hi b.c, lo b.c] = (a == b) := by
 have h1 := x12 a.v b.v
 have h2 := x12 a.c b.c
 simp only [eqI, Bool.and_true] at h1 h2 ⊢
 rw [← Bool.and_assoc, h1, h2]
 cases a; cases b
 rw [Bool.eq_iff_iff]
 simp
def spareI (l : List Cube) (n : Nat) (s : {i : Nat // i ≤ l.length ∧ ∀ j, j < i → spareBy l n j = false}) : ASt :=
 ⟨[(9, .p (.d (.v (.int .i64 (s.val : Int))))), (8, .p (.d (.v (.int .i64 (l.length : Int))))), (7, .p (.d (.sl 4 l.length (rowC l)))), (1, .p (.d (.v (.int .i64 (n : Int))))), (0, .p (.d (.sl 4 l.length (rowC l))))], []⟩
set_option maxRecDepth 100000 in
set_option maxHeartbeats 1000000 in
theorem spare_c (l : List Cube) (n : Nat) (hl : l.length ≤ 140737488355328) (hn : n < l.length) : ACalls Tryz.prog 162 [.d (.sl 4 l.length (rowC l)), .d (.v (.int .i64 (n : Int)))] (· = [.d (.v (.bool (spareP l n)))]) := by
 have rn := q29 l n
 obtain ⟨N, hN⟩ : ∃ N, l.getD n ⟨0, 0⟩ = N := ⟨_, rfl⟩
 rw [hN] at rn
 refine z12 Tryz.func162 rfl (by decide +kernel) (by rw [Tryz.ntmps162]; simp) ?_; rw [Tryz.ntmps162]; simp only [frOf]
 (repeat (first | apply j0 | refine q8 rfl ?_ | refine z8 rfl ?_ | apply x7 | (refine j4 fun K hK => ?_) | (refine x5 fun K hK => ?_) | ((first | apply j6 | apply z7 | ((first | refine x4 (hK _ ?_) | refine x6 (hK _ _ j5 ?_)); clear hK K)); (first | show AWP _ _ _ _ _ | ((try simp only [j7]); first | show loopQ _ _ _ _ _ _ | show cutQ _ _ _ _ | show AWP _ _ _ _ _))) | ((first | refine x8 [] rfl ?_ | refine j8 [] rfl ?_); simp (disch := omega) only [go_sem, seval, hd, cb, x9, j9]; (repeat (first | refine ⟨by omega, ?_⟩ | refine ⟨True.intro, ?_⟩)))))
 refine x13 (spareI l n) (fun s => l.length - s.val) ⟨0, by omega, fun j hj => by omega⟩ ?_ (fun s => ?_)
 ·unfold spareI
  refine Weak.list ?_ ?_; (all_goals simp (disch := omega) only [AllF, AllL, x11, j11, z11, exists_eq_left', go_sem, seval, hd, cb, x9, j9]); (all_goals (repeat' (with_reducible apply And.intro))); (all_goals try (first | exact q9 rfl | (refine q12 ?_; omega) | (refine q9 ?_; simp; done)))
 obtain ⟨i, hi, he⟩ := s
 unfold spareI
 by_cases hlt : i < l.length
 ·have ri := q29 l i
  have sp : spareBy l n i = (i != n && (withinC N (l.getD i ⟨0, 0⟩) && (N != l.getD i ⟨0, 0⟩ || decide (i < n)))) := by unfold spareBy; rw [hN]
  have step : spareBy l n i = false → ∀ j, j < i + 1 → spareBy l n j = false := fun h j hj => by
   by_cases e : j = i
   ·subst e; exact h
   ·exact he j (by omega)
  have stop : spareBy l n i = true → spareP l n = true := fun h => by
   unfold spareP
   rw [List.any_eq_true.2 ⟨i, List.mem_range.2 hlt, h⟩]; rfl
  generalize l.getD i ⟨0, 0⟩ = K at ri sp
  have wc := q143 N K
  by_cases hin : i = n
  ·have h0 : spareBy l n i = false := by rw [sp, hin]; simp
   have q : ((i : Int) != (n : Int)) = false := by simp [hin]
   (repeat (first | apply j0 | refine q8 rfl ?_ | refine z8 rfl ?_ | apply x7 | (refine j4 fun K hK => ?_) | (refine x5 fun K hK => ?_) | ((first | apply j6 | apply z7 | ((first | refine x4 (hK _ ?_) | refine x6 (hK _ _ j5 ?_)); clear hK K)); (first | show AWP _ _ _ _ _ | ((try simp only [j7]); first | show loopQ _ _ _ _ _ _ | show cutQ _ _ _ _ | show AWP _ _ _ _ _))) | ((first | refine j10 rfl rfl rfl ?_ | refine q11 rfl rfl rfl ?_); simp (disch := omega) only [go_sem, seval, hd, cb, x9, j9, rn, ri, q]; (first | refine ⟨_, wc, ?_⟩)) | ((first | refine x8 [] rfl ?_ | refine j8 [] rfl ?_); simp (disch := omega) only [go_sem, seval, hd, cb, x9, j9, rn, ri, q]; (repeat (first | refine ⟨by omega, ?_⟩ | refine ⟨True.intro, ?_⟩)))))
   refine ⟨⟨i + 1, by omega, step h0⟩, by simp only []; omega, ?_⟩
   refine Weak.list ?_ ?_; (all_goals simp (disch := omega) only [AllF, AllL, x11, j11, z11, exists_eq_left', go_sem, seval, hd, cb, x9, j9, rn, ri, q]); (all_goals (repeat' (with_reducible apply And.intro))); (all_goals try (first | exact q9 rfl | (refine q12 ?_; omega) | (refine q9 ?_; simp; done)))
  ·have q : ((i : Int) != (n : Int)) = true := by simp; omega
   have q2 : (i != n) = true := by simpa using hin
   rw [q2, Bool.true_and] at sp
   cases hw : withinC N K
   ·rw [hw] at wc sp
    (repeat (first | apply j0 | refine q8 rfl ?_ | refine z8 rfl ?_ | apply x7 | (refine j4 fun K hK => ?_) | (refine x5 fun K hK => ?_) | ((first | apply j6 | apply z7 | ((first | refine x4 (hK _ ?_) | refine x6 (hK _ _ j5 ?_)); clear hK K)); (first | show AWP _ _ _ _ _ | ((try simp only [j7]); first | show loopQ _ _ _ _ _ _ | show cutQ _ _ _ _ | show AWP _ _ _ _ _))) | ((first | refine j10 rfl rfl rfl ?_ | refine q11 rfl rfl rfl ?_); simp (disch := omega) only [go_sem, seval, hd, cb, x9, j9, rn, ri, q]; (first | refine ⟨_, wc, ?_⟩)) | ((first | refine x8 [] rfl ?_ | refine j8 [] rfl ?_); simp (disch := omega) only [go_sem, seval, hd, cb, x9, j9, rn, ri, q]; (repeat (first | refine ⟨by omega, ?_⟩ | refine ⟨True.intro, ?_⟩)))))
    refine ⟨⟨i + 1, by omega, step sp⟩, by simp only []; omega, ?_⟩
    refine Weak.list ?_ ?_; (all_goals simp (disch := omega) only [AllF, AllL, x11, j11, z11, exists_eq_left', go_sem, seval, hd, cb, x9, j9, rn, ri, q]); (all_goals (repeat' (with_reducible apply And.intro))); (all_goals try (first | exact q9 rfl | (refine q12 ?_; omega) | (refine q9 ?_; simp; done)))
   ·rw [hw, Bool.true_and] at sp
    rw [hw] at wc
    have eq := z98 N K
    have nb : (N != K) = !(N == K) := rfl
    rw [nb] at sp
    cases hq : (N == K)
    ·rw [hq] at eq sp
     (repeat (first | apply j0 | refine q8 rfl ?_ | refine z8 rfl ?_ | apply x7 | (refine j4 fun K hK => ?_) | (refine x5 fun K hK => ?_) | ((first | apply j6 | apply z7 | ((first | refine x4 (hK _ ?_) | refine x6 (hK _ _ j5 ?_)); clear hK K)); (first | show AWP _ _ _ _ _ | ((try simp only [j7]); first | show loopQ _ _ _ _ _ _ | show cutQ _ _ _ _ | show AWP _ _ _ _ _))) | ((first | refine j10 rfl rfl rfl ?_ | refine q11 rfl rfl rfl ?_); simp (disch := omega) only [go_sem, seval, hd, cb, x9, j9, rn, ri, q, eq]; (first | refine ⟨_, wc, ?_⟩)) | ((first | refine x8 [] rfl ?_ | refine j8 [] rfl ?_); simp (disch := omega) only [go_sem, seval, hd, cb, x9, j9, rn, ri, q, eq]; (repeat (first | refine ⟨by omega, ?_⟩ | refine ⟨True.intro, ?_⟩)))))
     rw [stop sp]
     refine q10 ⟨_, ?_, rfl⟩; rw [Tryz.results162]; simp (disch := omega) only [ResVars, ResVar, ptrLoc, go_sem, seval, hd, cb, x9, j9, rn, ri, q, eq]
    ·rw [hq] at eq sp
     by_cases hl2 : i < n
     ·rw [decide_eq_true hl2] at sp
      (repeat (first | apply j0 | refine q8 rfl ?_ | refine z8 rfl ?_ | apply x7 | (refine j4 fun K hK => ?_) | (refine x5 fun K hK => ?_) | ((first | apply j6 | apply z7 | ((first | refine x4 (hK _ ?_) | refine x6 (hK _ _ j5 ?_)); clear hK K)); (first | show AWP _ _ _ _ _ | ((try simp only [j7]); first | show loopQ _ _ _ _ _ _ | show cutQ _ _ _ _ | show AWP _ _ _ _ _))) | ((first | refine j10 rfl rfl rfl ?_ | refine q11 rfl rfl rfl ?_); simp (disch := omega) only [go_sem, seval, hd, cb, x9, j9, rn, ri, q, eq]; (first | refine ⟨_, wc, ?_⟩)) | ((first | refine x8 [] rfl ?_ | refine j8 [] rfl ?_); simp (disch := omega) only [go_sem, seval, hd, cb, x9, j9, rn, ri, q, eq]; (repeat (first | refine ⟨by omega, ?_⟩ | refine ⟨True.intro, ?_⟩)))))
      rw [stop sp]
      refine q10 ⟨_, ?_, rfl⟩; rw [Tryz.results162]; simp (disch := omega) only [ResVars, ResVar, ptrLoc, go_sem, seval, hd, cb, x9, j9, rn, ri, q, eq]
     ·rw [decide_eq_false hl2] at sp
      (repeat (first | apply j0 | refine q8 rfl ?_ | refine z8 rfl ?_ | apply x7 | (refine j4 fun K hK => ?_) | (refine x5 fun K hK => ?_) | ((first | apply j6 | apply z7 | ((first | refine x4 (hK _ ?_) | refine x6 (hK _ _ j5 ?_)); clear hK K)); (first | show AWP _ _ _ _ _ | ((try simp only [j7]); first | show loopQ _ _ _ _ _ _ | show cutQ _ _ _ _ | show AWP _ _ _ _ _))) | ((first | refine j10 rfl rfl rfl ?_ | refine q11 rfl rfl rfl ?_); simp (disch := omega) only [go_sem, seval, hd, cb, x9, j9, rn, ri, q, eq]; (first | refine ⟨_, wc, ?_⟩)) | ((first | refine x8 [] rfl ?_ | refine j8 [] rfl ?_); simp (disch := omega) only [go_sem, seval, hd, cb, x9, j9, rn, ri, q, eq]; (repeat (first | refine ⟨by omega, ?_⟩ | refine ⟨True.intro, ?_⟩)))))
      refine ⟨⟨i + 1, by omega, step sp⟩, by simp only []; omega, ?_⟩
      refine Weak.list ?_ ?_; (all_goals simp (disch := omega) only [AllF, AllL, x11, j11, z11, exists_eq_left', go_sem, seval, hd, cb, x9, j9, rn, ri, q, eq]); (all_goals (repeat' (with_reducible apply And.intro))); (all_goals try (first | exact q9 rfl | (refine q12 ?_; omega) | (refine q9 ?_; simp; done)))
 ·have : i = l.length := by omega
  subst this
  have h0 : (List.range l.length).any (spareBy l n) = false := by
   rw [List.any_eq_false]
   intro j hj
   rw [he j (List.mem_range.1 hj)]; simp
  have sd := z18 N
  (repeat (first | apply j0 | refine q8 rfl ?_ | refine z8 rfl ?_ | apply x7 | (refine j4 fun K hK => ?_) | (refine x5 fun K hK => ?_) | ((first | apply j6 | apply z7 | ((first | refine x4 (hK _ ?_) | refine x6 (hK _ _ j5 ?_)); clear hK K)); (first | show AWP _ _ _ _ _ | ((try simp only [j7]); first | show loopQ _ _ _ _ _ _ | show cutQ _ _ _ _ | show AWP _ _ _ _ _))) | ((first | refine j10 rfl rfl rfl ?_ | refine q11 rfl rfl rfl ?_); simp (disch := omega) only [go_sem, seval, hd, cb, x9, j9, rn]; (first | refine ⟨_, sd, ?_⟩)) | ((first | refine x8 [] rfl ?_ | refine j8 [] rfl ?_); simp (disch := omega) only [go_sem, seval, hd, cb, x9, j9, rn]; (repeat (first | refine ⟨by omega, ?_⟩ | refine ⟨True.intro, ?_⟩)))))
  refine q10 ⟨_, ?_, rfl⟩; rw [Tryz.results162]; simp (disch := omega) only [ResVars, ResVar, ptrLoc, go_sem, seval, hd, cb, x9, j9, rn]
  unfold spareP
  rw [h0, Bool.false_or, hN]
theorem Clone_c (l : List Cube) (hl : l.length ≤ 1099511627776) : ACalls Tryz.prog 63 [.d (.sl 4 l.length (rowC l))] (· = [.d (.sl 4 l.length (rowC l))]) := by
 by_cases h : l.length = 0
 ·rw [h]
  refine x39 fun a c => ?_
  cases a with
  |none =>
   refine z12 Tryz.func63 rfl (by decide +kernel) (by rw [Tryz.ntmps63]; simp) ?_; rw [Tryz.ntmps63]; simp only [frOf]
   (repeat (first | apply j0 | refine q8 rfl ?_ | refine z8 rfl ?_ | apply x7 | (refine j4 fun K hK => ?_) | (refine x5 fun K hK => ?_) | ((first | apply j6 | apply z7 | ((first | refine x4 (hK _ ?_) | refine x6 (hK _ _ j5 ?_)); clear hK K)); (first | show AWP _ _ _ _ _ | ((try simp only [j7]); first | show loopQ _ _ _ _ _ _ | show cutQ _ _ _ _ | show AWP _ _ _ _ _))) | ((first | refine x8 [5] rfl ?_ | refine j8 [5] rfl ?_); simp (disch := omega) only [go_sem, seval, hd, cb, x9, j9]; (repeat (first | refine ⟨by omega, ?_⟩ | refine ⟨True.intro, ?_⟩)))))
   refine q16 2 _ (.p (.d (.sl 4 0 (rowC l)))) rfl j21 ?_
   refine q10 ⟨_, ?_, rfl⟩; rw [Tryz.results63]; simp (disch := omega) only [ResVars, ResVar, ptrLoc, go_sem, seval, hd, cb, x9, j9]
  |some a =>
   refine z12 Tryz.func63 rfl (by decide +kernel) (by rw [Tryz.ntmps63]; simp) ?_; rw [Tryz.ntmps63]; simp only [frOf]
   (repeat ((fail_if_success (show AWP _ _ (.region 3 _ _) _ _)); first | apply j0 | refine q8 rfl ?_ | refine z8 rfl ?_ | apply x7 | (refine j4 fun K hK => ?_) | (refine x5 fun K hK => ?_) | ((first | apply j6 | apply z7 | ((first | refine x4 (hK _ ?_) | refine x6 (hK _ _ j5 ?_)); clear hK K)); (first | show AWP _ _ _ _ _ | ((try simp only [j7]); first | show loopQ _ _ _ _ _ _ | show cutQ _ _ _ _ | show AWP _ _ _ _ _))) | ((first | refine x8 [5] rfl ?_ | refine j8 [5] rfl ?_); simp (disch := omega) only [go_sem, seval, hd, cb, x9, j9]; (repeat (first | refine ⟨by omega, ?_⟩ | refine ⟨True.intro, ?_⟩)))))
   refine q16 0 _ (.p (.d (.sl 4 0 (rowC l)))) rfl j21 ?_
   (repeat (first | apply j0 | refine q8 rfl ?_ | refine z8 rfl ?_ | apply x7 | (refine j4 fun K hK => ?_) | (refine x5 fun K hK => ?_) | ((first | apply j6 | apply z7 | ((first | refine x4 (hK _ ?_) | refine x6 (hK _ _ j5 ?_)); clear hK K)); (first | show AWP _ _ _ _ _ | ((try simp only [j7]); first | show loopQ _ _ _ _ _ _ | show cutQ _ _ _ _ | show AWP _ _ _ _ _))) | ((first | refine x8 [5] rfl ?_ | refine j8 [5] rfl ?_); simp (disch := omega) only [go_sem, seval, hd, cb, x9, j9]; (repeat (first | refine ⟨by omega, ?_⟩ | refine ⟨True.intro, ?_⟩)))))
   refine q16 2 _ (.p (.d (.sl 4 0 (rowC l)))) rfl (x22 rfl (fun i hi => by omega)) ?_
   refine q10 ⟨_, ?_, rfl⟩; rw [Tryz.results63]; simp (disch := omega) only [ResVars, ResVar, ptrLoc, go_sem, seval, hd, cb, x9, j9]
 ·refine z12 Tryz.func63 rfl (by decide +kernel) (by rw [Tryz.ntmps63]; simp) ?_; rw [Tryz.ntmps63]; simp only [frOf]
  (repeat (first | apply j0 | refine q8 rfl ?_ | refine z8 rfl ?_ | apply x7 | (refine j4 fun K hK => ?_) | (refine x5 fun K hK => ?_) | ((first | apply j6 | apply z7 | ((first | refine x4 (hK _ ?_) | refine x6 (hK _ _ j5 ?_)); clear hK K)); (first | show AWP _ _ _ _ _ | ((try simp only [j7]); first | show loopQ _ _ _ _ _ _ | show cutQ _ _ _ _ | show AWP _ _ _ _ _))) | ((first | refine x8 [5] rfl ?_ | refine j8 [5] rfl ?_); simp (disch := omega) only [go_sem, seval, hd, cb, x9, j9]; (repeat (first | refine ⟨by omega, ?_⟩ | refine ⟨True.intro, ?_⟩)))))
  refine q16 2 _ (.p (.d (.sl 4 l.length (rowC l)))) rfl (x22 (by omega) (fun i hi => by unfold catF; rw [if_neg (by omega)]; rfl)) ?_
  refine q10 ⟨_, ?_, rfl⟩; rw [Tryz.results63]; simp (disch := omega) only [ResVars, ResVar, ptrLoc, go_sem, seval, hd, cb, x9, j9]
def ixRI (l : List Rule) (g : FuncId) (caps : List PV) (p : Rule → Bool) (R : Int) (s : {i : Nat // i ≤ l.length ∧ idxF p (l.drop i) i = R}) : ASt :=
 ⟨[(8, .p (.d (.v (.int .i64 (s.val : Int))))), (7, .p (.d (.v (.int .i64 (l.length : Int))))), (1, .p (.fn (.func g) [] caps)), (0, .p (.d (.sl 12 l.length (rowR l))))], []⟩
theorem j151 (g : FuncId) (caps : List PV) (p : Rule → Bool) (l : List Rule) (hl : l.length ≤ 140737488355328) (hp : ∀ k ∈ l, ACalls Tryz.prog g (.agg (ruleD k) :: caps) (· = [.d (.v (.bool (p k)))])) :
  ACalls Tryz.prog 107 [.d (.sl 12 l.length (rowR l)), .fn (.func g) [] caps] (· = [.d (.v (.int .i64 (idxF p l 0)))]) := by
 obtain ⟨R, hR⟩ : ∃ R, idxF p l 0 = R := ⟨_, rfl⟩
 rw [hR]
 refine z12 Tryz.func107 rfl (by decide +kernel) (by rw [Tryz.ntmps107]; simp) ?_; rw [Tryz.ntmps107]; simp only [frOf]
 (repeat (first | apply j0 | refine q8 rfl ?_ | refine z8 rfl ?_ | apply x7 | (refine j4 fun K hK => ?_) | (refine x5 fun K hK => ?_) | ((first | apply j6 | apply z7 | ((first | refine x4 (hK _ ?_) | refine x6 (hK _ _ j5 ?_)); clear hK K)); (first | show AWP _ _ _ _ _ | ((try simp only [j7]); first | show loopQ _ _ _ _ _ _ | show cutQ _ _ _ _ | show AWP _ _ _ _ _))) | ((first | refine x8 [] rfl ?_ | refine j8 [] rfl ?_); simp (disch := omega) only [go_sem, seval, hd, cb, ruleD]; (repeat (first | refine ⟨by omega, ?_⟩ | refine ⟨True.intro, ?_⟩)))))
 refine x13 (ixRI l g caps p R) (fun s => l.length - s.val) ⟨0, by omega, by rw [List.drop_zero]; exact hR⟩ ?_ (fun s => ?_)
 ·unfold ixRI
  refine Weak.list ?_ ?_; (all_goals simp (disch := omega) only [AllF, AllL, x11, j11, z11, exists_eq_left', go_sem, seval, hd, cb, ruleD]); (all_goals (repeat' (with_reducible apply And.intro))); (all_goals try (first | exact q9 rfl | (refine q12 ?_; omega) | (refine q9 ?_; simp; done)))
 obtain ⟨i, hi, he⟩ := s
 unfold ixRI
 by_cases hn : i < l.length
 ·rw [j31 l i r0 hn] at he
  have r1 := z20 l i
  have hk := hp _ (z24 hn r0)
  generalize l.getD i r0 = K at he r1 hk
  unfold idxF at he
  cases hb : p K
  all_goals
   rw [hb] at he hk
   simp only [Bool.false_eq_true, if_false, if_true] at he
   (repeat (first | apply j0 | refine q8 rfl ?_ | refine z8 rfl ?_ | apply x7 | (refine j4 fun K hK => ?_) | (refine x5 fun K hK => ?_) | ((first | apply j6 | apply z7 | ((first | refine x4 (hK _ ?_) | refine x6 (hK _ _ j5 ?_)); clear hK K)); (first | show AWP _ _ _ _ _ | ((try simp only [j7]); first | show loopQ _ _ _ _ _ _ | show cutQ _ _ _ _ | show AWP _ _ _ _ _))) | ((first | refine j10 rfl rfl rfl ?_ | refine q11 rfl rfl rfl ?_); simp (disch := omega) only [go_sem, seval, hd, cb, ruleD, r1]; (first | refine ⟨_, hk, ?_⟩)) | ((first | refine x8 [] rfl ?_ | refine j8 [] rfl ?_); simp (disch := omega) only [go_sem, seval, hd, cb, ruleD, r1]; (repeat (first | refine ⟨by omega, ?_⟩ | refine ⟨True.intro, ?_⟩)))))
  ·refine ⟨⟨i + 1, by omega, he⟩, by simp only []; omega, ?_⟩
   refine Weak.list ?_ ?_; (all_goals simp (disch := omega) only [AllF, AllL, x11, j11, z11, exists_eq_left', go_sem, seval, hd, cb, ruleD, r1]); (all_goals (repeat' (with_reducible apply And.intro))); (all_goals try (first | exact q9 rfl | (refine q12 ?_; omega) | (refine q9 ?_; simp; done)))
  ·refine q10 ⟨_, ?_, rfl⟩; rw [Tryz.results107]; simp (disch := omega) only [ResVars, ResVar, ptrLoc, go_sem, seval, hd, cb, ruleD, r1]
   rw [he]
 ·have : i = l.length := by omega
  subst this
  rw [List.drop_length] at he
  unfold idxF at he
  (repeat (first | apply j0 | refine q8 rfl ?_ | refine z8 rfl ?_ | apply x7 | (refine j4 fun K hK => ?_) | (refine x5 fun K hK => ?_) | ((first | apply j6 | apply z7 | ((first | refine x4 (hK _ ?_) | refine x6 (hK _ _ j5 ?_)); clear hK K)); (first | show AWP _ _ _ _ _ | ((try simp only [j7]); first | show loopQ _ _ _ _ _ _ | show cutQ _ _ _ _ | show AWP _ _ _ _ _))) | ((first | refine x8 [] rfl ?_ | refine j8 [] rfl ?_); simp (disch := omega) only [go_sem, seval, hd, cb, ruleD]; (repeat (first | refine ⟨by omega, ?_⟩ | refine ⟨True.intro, ?_⟩)))))
  refine q10 ⟨_, ?_, rfl⟩; rw [Tryz.results107]; simp (disch := omega) only [ResVars, ResVar, ptrLoc, go_sem, seval, hd, cb, ruleD]
  rw [he]
theorem x98 (g : FuncId) (caps : List PV) (p : Rule → Bool) (l : List Rule) (hl : l.length ≤ 140737488355328) (hp : ∀ k ∈ l, ACalls Tryz.prog g (.agg (ruleD k) :: caps) (· = [.d (.v (.bool (p k)))])) :
  ACalls Tryz.prog 72 [.d (.sl 12 l.length (rowR l)), .fn (.func g) [] caps] (· = [.d (.v (.bool (l.any p)))]) := by
 have ix := j151 g caps p l hl hp
 have ia := x69 p l 0
 generalize idxF p l 0 = R at ix ia
 refine z12 Tryz.func72 rfl (by decide +kernel) (by rw [Tryz.ntmps72]; simp) ?_; rw [Tryz.ntmps72]; simp only [frOf]
 (repeat (first | apply j0 | refine q8 rfl ?_ | refine z8 rfl ?_ | apply x7 | (refine j4 fun K hK => ?_) | (refine x5 fun K hK => ?_) | ((first | apply j6 | apply z7 | ((first | refine x4 (hK _ ?_) | refine x6 (hK _ _ j5 ?_)); clear hK K)); (first | show AWP _ _ _ _ _ | ((try simp only [j7]); first | show loopQ _ _ _ _ _ _ | show cutQ _ _ _ _ | show AWP _ _ _ _ _))) | ((first | refine j10 rfl rfl rfl ?_ | refine q11 rfl rfl rfl ?_); simp (disch := omega) only [go_sem, seval, hd, cb, ruleD]; (first | refine ⟨_, ix, ?_⟩)) | ((first | refine x8 [] rfl ?_ | refine j8 [] rfl ?_); simp (disch := omega) only [go_sem, seval, hd, cb, ruleD]; (repeat (first | refine ⟨by omega, ?_⟩ | refine ⟨True.intro, ?_⟩)))))
 refine q10 ⟨_, ?_, rfl⟩; rw [Tryz.results72]; simp (disch := omega) only [ResVars, ResVar, ptrLoc, go_sem, seval, hd, cb, ruleD]
 rw [ia]
theorem j98 (out : List Cube) (c : Cube) (i : Nat) (hlt : i < out.length + 1) : catF out.length (rowC out) (fun i => [cb c].getD i []) i = rowC (out ++ [c]) i := by
 unfold catF rowC
 by_cases h : i < out.length
 ·simp only [if_pos h, List.getD_eq_getElem?_getD, List.getElem?_append_left h]
 ·have : i = out.length := by omega
  subst this
  simp
theorem q152 (a b : List Cube) (i : Nat) : catF a.length (rowC a) (rowC b) i = rowC (a ++ b) i := by
 unfold catF rowC
 by_cases h : i < a.length
 ·simp only [if_pos h, List.getD_eq_getElem?_getD, List.getElem?_append_left h]
 ·simp only [if_neg h, List.getD_eq_getElem?_getD, List.getElem?_append_right (Nat.le_of_not_lt h)]
def leanTo (l : List Cube) (i : Nat) : List Cube := (List.range i).filterMap fun n => if spareP l n then none else some (l.getD n ⟨0, 0⟩)
def leanP (l : List Cube) : List Cube := leanTo l l.length
theorem z152 (l : List Cube) (i : Nat) : leanTo l (i + 1) = leanTo l i ++ if spareP l i then [] else [l.getD i ⟨0, 0⟩] := by
 unfold leanTo
 rw [List.range_succ, List.filterMap_append]
 congr 1
 cases h : spareP l i <;> simp [h]
theorem q99 (l : List Cube) (i : Nat) : (leanTo l i).length ≤ i := by
 unfold leanTo
 exact Nat.le_trans (List.length_filterMap_le _ _) (by simp)
def leanI (l : List Cube) (s : {s : Nat × List Cube // s.1 ≤ l.length ∧ s.2 = leanTo l s.1}) : ASt :=
 ⟨[(8, .p (.d (.v (.int .i64 (s.val.1 : Int))))), (7, .p (.d (.v (.int .i64 (l.length : Int))))), (6, .p (.d (.sl 4 l.length (rowC l)))), (3, .gr 3 s.val.2.length 4 s.val.2.length (rowC s.val.2)), (0, .p (.d (.sl 4 l.length (rowC l))))],
  [(3, .grow 53 4 s.val.2.length s.val.2.length)]⟩
set_option maxHeartbeats 1000000 in
theorem Lean_c (l : List Cube) (hl : l.length ≤ 1099511627776) : ACalls Tryz.prog 135 [.d (.sl 4 l.length (rowC l))] (· = [.d (.sl 4 (leanP l).length (rowC (leanP l)))]) := by
 refine z12 Tryz.func135 rfl (by decide +kernel) (by rw [Tryz.ntmps135]; simp) ?_; rw [Tryz.ntmps135]; simp only [frOf]
 (repeat (first | apply j0 | refine q8 rfl ?_ | refine z8 rfl ?_ | apply x7 | (refine j4 fun K hK => ?_) | (refine x5 fun K hK => ?_) | ((first | apply j6 | apply z7 | ((first | refine x4 (hK _ ?_) | refine x6 (hK _ _ j5 ?_)); clear hK K)); (first | show AWP _ _ _ _ _ | ((try simp only [j7]); first | show loopQ _ _ _ _ _ _ | show cutQ _ _ _ _ | show AWP _ _ _ _ _))) | ((first | refine x8 [] rfl ?_ | refine j8 [] rfl ?_); simp (disch := omega) only [go_sem, seval, hd, cb, x9, j9]; (repeat (first | refine ⟨by omega, ?_⟩ | refine ⟨True.intro, ?_⟩)))))
 refine x31 3 3 4 53 (rowC []) rfl (by kernel_rfl) rfl ?_
 refine x13 (leanI l) (fun s => l.length - s.val.1) ⟨(0, []), by simp, by simp [leanTo]⟩ ?_ (fun s => ?_)
 ·unfold leanI
  refine Weak.list ?_ ?_; (all_goals simp (disch := omega) only [AllF, AllL, x11, j11, z11, exists_eq_left', go_sem, seval, hd, cb, x9, j9]); (all_goals (repeat' (with_reducible apply And.intro))); (all_goals try (first | exact q9 rfl | (refine q12 ?_; omega) | (refine q9 ?_; simp; done)))
 obtain ⟨⟨i, out⟩, hi, he⟩ := s
 unfold leanI
 simp only [] at hi he
 have ho := q99 l i
 rw [← he] at ho
 by_cases hn : i < l.length
 ·have sp := spare_c l i (by omega) hn
  have st := z152 l i
  rw [← he] at st
  have r1 := q29 l i
  generalize l.getD i ⟨0, 0⟩ = K at r1 st
  cases h : spareP l i
  all_goals
   rw [h] at sp st
   simp only [Bool.false_eq_true, if_false, if_true] at st
   (repeat (first | apply j0 | refine q8 rfl ?_ | refine z8 rfl ?_ | apply x7 | (refine j4 fun K hK => ?_) | (refine x5 fun K hK => ?_) | ((first | apply j6 | apply z7 | ((first | refine x4 (hK _ ?_) | refine x6 (hK _ _ j5 ?_)); clear hK K)); (first | show AWP _ _ _ _ _ | ((try simp only [j7]); first | show loopQ _ _ _ _ _ _ | show cutQ _ _ _ _ | show AWP _ _ _ _ _))) | ((first | refine j10 rfl rfl rfl ?_ | refine q11 rfl rfl rfl ?_); simp (disch := omega) only [go_sem, seval, hd, cb, x9, j9, r1]; (first | refine ⟨_, sp, ?_⟩)) | ((first | refine x8 [] rfl ?_ | refine j8 [] rfl ?_); simp (disch := omega) only [go_sem, seval, hd, cb, x9, j9, r1]; (repeat (first | refine ⟨by omega, ?_⟩ | refine ⟨True.intro, ?_⟩)))))
  ·refine ⟨⟨(i + 1, out ++ [K]), by simp only []; omega, st.symm⟩, by simp only []; omega, ?_⟩
   refine Weak.list ?_ ?_; (all_goals simp (disch := omega) only [AllF, AllL, x11, j11, z11, exists_eq_left', go_sem, seval, hd, cb, x9, j9, r1]); (all_goals (repeat' (with_reducible apply And.intro))); (all_goals try (first | exact q9 rfl | (refine q12 ?_; omega) | (refine q9 ?_; simp; done)))
   ·exact q31 (by simp) (by simp) (fun j hj => j98 out K j hj)
   ·exact q51 (by simp) (by simp)
  ·rw [List.append_nil] at st
   refine ⟨⟨(i + 1, out), by simp only []; omega, st.symm⟩, by simp only []; omega, ?_⟩
   refine Weak.list ?_ ?_; (all_goals simp (disch := omega) only [AllF, AllL, x11, j11, z11, exists_eq_left', go_sem, seval, hd, cb, x9, j9, r1]); (all_goals (repeat' (with_reducible apply And.intro))); (all_goals try (first | exact q9 rfl | (refine q12 ?_; omega) | (refine q9 ?_; simp; done)))
 ·have hil : i = l.length := by omega
  subst hil
  (repeat (first | apply j0 | refine q8 rfl ?_ | refine z8 rfl ?_ | apply x7 | (refine j4 fun K hK => ?_) | (refine x5 fun K hK => ?_) | ((first | apply j6 | apply z7 | ((first | refine x4 (hK _ ?_) | refine x6 (hK _ _ j5 ?_)); clear hK K)); (first | show AWP _ _ _ _ _ | ((try simp only [j7]); first | show loopQ _ _ _ _ _ _ | show cutQ _ _ _ _ | show AWP _ _ _ _ _))) | ((first | refine x8 [] rfl ?_ | refine j8 [] rfl ?_); simp (disch := omega) only [go_sem, seval, hd, cb, x9, j9]; (repeat (first | refine ⟨by omega, ?_⟩ | refine ⟨True.intro, ?_⟩)))))
  refine q16 2 _ (.p (.d (.sl 4 (leanP l).length (rowC (leanP l))))) rfl ?_ ?_
  ·unfold leanP
   rw [← he]
   exact x22 rfl (fun _ _ => rfl)
  refine q10 ⟨_, ?_, rfl⟩; rw [Tryz.results135]; simp (disch := omega) only [ResVars, ResVar, ptrLoc, go_sem, seval, hd, cb, x9, j9]
def leanE (l : List Cube) : Int := if (leanP l).length > 200 then 10 else 0
def leanV (l : List Cube) : List Cube := if (leanP l).length > 200 then [] else leanP l
theorem z99 (l : List Cube) (hl : l.length ≤ 1099511627776) : ACalls Tryz.prog 97 [.d (.sl 4 l.length (rowC l))] (· = [.d (.sl 4 (leanV l).length (rowC (leanV l))), .d (.v (.int .i64 (leanE l)))]) := by
 have le := Lean_c l hl
 have hlen : (leanP l).length ≤ l.length := q99 l _
 unfold leanE leanV
 generalize leanP l = m at le hlen
 have cl := q98 m.length (rowC m) (by omega)
 by_cases h : m.length > 200
 ·rw [if_pos h, if_pos h]
  refine z12 Tryz.func97 rfl (by decide +kernel) (by rw [Tryz.ntmps97]; simp) ?_; rw [Tryz.ntmps97]; simp only [frOf]
  (repeat (first | apply j0 | refine q8 rfl ?_ | refine z8 rfl ?_ | apply x7 | (refine j4 fun K hK => ?_) | (refine x5 fun K hK => ?_) | ((first | apply j6 | apply z7 | ((first | refine x4 (hK _ ?_) | refine x6 (hK _ _ j5 ?_)); clear hK K)); (first | show AWP _ _ _ _ _ | ((try simp only [j7]); first | show loopQ _ _ _ _ _ _ | show cutQ _ _ _ _ | show AWP _ _ _ _ _))) | ((first | refine j10 rfl rfl rfl ?_ | refine q11 rfl rfl rfl ?_); simp (disch := omega) only [go_sem, seval, hd, cb, x9, j9]; (first | refine ⟨_, le, ?_⟩ | refine ⟨_, cl, ?_⟩)) | ((first | refine x8 [] rfl ?_ | refine j8 [] rfl ?_); simp (disch := omega) only [go_sem, seval, hd, cb, x9, j9]; (repeat (first | refine ⟨by omega, ?_⟩ | refine ⟨True.intro, ?_⟩)))))
  refine q16 2 _ (.p (.d (.sl 4 ([] : List Cube).length (rowC [])))) rfl (z25 4 _ _ rfl) ?_
  refine q10 ⟨_, ?_, rfl⟩; rw [Tryz.results97]; simp (disch := omega) only [ResVars, ResVar, ptrLoc, go_sem, seval, hd, cb, x9, j9]
 ·rw [if_neg h, if_neg h]
  refine z12 Tryz.func97 rfl (by decide +kernel) (by rw [Tryz.ntmps97]; simp) ?_; rw [Tryz.ntmps97]; simp only [frOf]
  (repeat (first | apply j0 | refine q8 rfl ?_ | refine z8 rfl ?_ | apply x7 | (refine j4 fun K hK => ?_) | (refine x5 fun K hK => ?_) | ((first | apply j6 | apply z7 | ((first | refine x4 (hK _ ?_) | refine x6 (hK _ _ j5 ?_)); clear hK K)); (first | show AWP _ _ _ _ _ | ((try simp only [j7]); first | show loopQ _ _ _ _ _ _ | show cutQ _ _ _ _ | show AWP _ _ _ _ _))) | ((first | refine j10 rfl rfl rfl ?_ | refine q11 rfl rfl rfl ?_); simp (disch := omega) only [go_sem, seval, hd, cb, x9, j9]; (first | refine ⟨_, le, ?_⟩ | refine ⟨_, cl, ?_⟩)) | ((first | refine x8 [] rfl ?_ | refine j8 [] rfl ?_); simp (disch := omega) only [go_sem, seval, hd, cb, x9, j9]; (repeat (first | refine ⟨by omega, ?_⟩ | refine ⟨True.intro, ?_⟩)))))
  refine q10 ⟨_, ?_, rfl⟩; rw [Tryz.results97]; simp (disch := omega) only [ResVars, ResVar, ptrLoc, go_sem, seval, hd, cb, x9, j9]
def pairE (a b : List Cube) : Int := if soundP a && soundP b then 0 else 2
theorem x99 (a b : List Cube) (ha : a.length ≤ 1099511627776) (hb : b.length ≤ 1099511627776) : ACalls Tryz.prog 96 [.d (.sl 4 a.length (rowC a)), .d (.sl 4 b.length (rowC b))] (· = [.d (.v (.int .i64 (pairE a b)))]) := by
 have s1 := j97 a (by omega)
 have s2 := j97 b (by omega)
 unfold pairE
 cases h1 : soundP a <;> cases h2 : soundP b
 all_goals
  rw [h1] at s1
  rw [h2] at s2
  refine z12 Tryz.func96 rfl (by decide +kernel) (by rw [Tryz.ntmps96]; simp) ?_; rw [Tryz.ntmps96]; simp only [frOf]
  (repeat (first | apply j0 | refine q8 rfl ?_ | refine z8 rfl ?_ | apply x7 | (refine j4 fun K hK => ?_) | (refine x5 fun K hK => ?_) | ((first | apply j6 | apply z7 | ((first | refine x4 (hK _ ?_) | refine x6 (hK _ _ j5 ?_)); clear hK K)); (first | show AWP _ _ _ _ _ | ((try simp only [j7]); first | show loopQ _ _ _ _ _ _ | show cutQ _ _ _ _ | show AWP _ _ _ _ _))) | ((first | refine j10 rfl rfl rfl ?_ | refine q11 rfl rfl rfl ?_); simp (disch := omega) only [go_sem, seval, hd, cb, x9, j9]; (first | refine ⟨_, s1, ?_⟩ | refine ⟨_, s2, ?_⟩)) | ((first | refine x8 [] rfl ?_ | refine j8 [] rfl ?_); simp (disch := omega) only [go_sem, seval, hd, cb, x9, j9]; (repeat (first | refine ⟨by omega, ?_⟩ | refine ⟨True.intro, ?_⟩)))))
  refine q10 ⟨_, ?_, rfl⟩; rw [Tryz.results96]; simp (disch := omega) only [ResVars, ResVar, ptrLoc, go_sem, seval, hd, cb, x9, j9]
def cbA (k : Cube) : List AV := [.p (.d (.v (.int .u64 (hi k.v)))), .p (.d (.v (.int .u64 (lo k.v)))), .p (.d (.v (.int .u64 (hi k.c)))), .p (.d (.v (.int .u64 (lo k.c))))]
def meetOne (x y : Cube) : Option Cube := if meetO x y then some (meetV x y) else none
def meetRow (b : List Cube) (x : Cube) : List Cube := b.filterMap (meetOne x)
def meetsP (a b : List Cube) : List Cube := a.flatMap (meetRow b)
def meetPI (a b : List Cube) (s : {s : Nat × List Cube // s.1 ≤ a.length ∧ s.2 = (a.take s.1).flatMap (meetRow b) ∧ s.2.length ≤ s.1 * b.length}) : ASt :=
 ⟨[(22, .p (.d (.v (.int .i64 (s.val.1 : Int))))), (21, .p (.d (.v (.int .i64 (a.length : Int))))), (20, .p (.d (.sl 4 a.length (rowC a)))), (7, .gr 7 s.val.2.length 4 s.val.2.length (rowC s.val.2)), (1, .p (.d (.sl 4 b.length (rowC b))))],
  [(7, .grow 53 4 s.val.2.length s.val.2.length)]⟩
def meetPJ (a b : List Cube) (x : Cube) (i : Nat) (pre : List Cube) (s : {s : Nat × List Cube // s.1 ≤ b.length ∧ s.2 = pre ++ (b.take s.1).filterMap (meetOne x) ∧ s.2.length ≤ pre.length + s.1}) : ASt :=
 ⟨[(28, .p (.d (.v (.int .i64 (s.val.1 : Int))))), (27, .p (.d (.v (.int .i64 (b.length : Int))))), (26, .p (.d (.sl 4 b.length (rowC b)))), (9, .loc 9 0), (22, .p (.d (.v (.int .i64 (i : Int))))), (21, .p (.d (.v (.int .i64 (a.length : Int))))), (20, .p (.d (.sl 4 a.length (rowC a)))),
  (7, .gr 7 s.val.2.length 4 s.val.2.length (rowC s.val.2)), (1, .p (.d (.sl 4 b.length (rowC b))))],
  [(9, .cells 53 (cbA x)), (7, .grow 53 4 s.val.2.length s.val.2.length)]⟩
theorem x56 {a : List Cube} (h : soundP a = true) : a.length ≤ 200 := by
 unfold soundP at h
 rw [Bool.and_eq_true] at h
 exact of_decide_eq_true h.1
set_option maxRecDepth 100000 in
set_option maxHeartbeats 2000000 in
theorem MeetP_c (a b : List Cube) (ha : a.length ≤ 1099511627776) (hb : b.length ≤ 1099511627776) : ACalls Tryz.prog 67 [.d (.sl 4 a.length (rowC a)), .d (.sl 4 b.length (rowC b))]
  (· = [.d (.sl 4 (if soundP a && soundP b then leanV (meetsP a b) else []).length (rowC (if soundP a && soundP b then leanV (meetsP a b) else []))), .d (.v (.int .i64 (if soundP a && soundP b then leanE (meetsP a b) else 2)))]) := by
 have pr := x99 a b ha hb
 unfold pairE at pr
 cases hs : (soundP a && soundP b)
 ·rw [hs] at pr
  simp only [Bool.false_eq_true, if_false] at pr ⊢
  refine z12 Tryz.func67 rfl (by decide +kernel) (by rw [Tryz.ntmps67]; simp) ?_; rw [Tryz.ntmps67]; simp only [frOf]
  (repeat (first | apply j0 | refine q8 rfl ?_ | refine z8 rfl ?_ | apply x7 | (refine j4 fun K hK => ?_) | (refine x5 fun K hK => ?_) | ((first | apply j6 | apply z7 | ((first | refine x4 (hK _ ?_) | refine x6 (hK _ _ j5 ?_)); clear hK K)); (first | show AWP _ _ _ _ _ | ((try simp only [j7]); first | show loopQ _ _ _ _ _ _ | show cutQ _ _ _ _ | show AWP _ _ _ _ _))) | ((first | refine j10 rfl rfl rfl ?_ | refine q11 rfl rfl rfl ?_); simp (disch := omega) only [go_sem, seval, hd, cb, x9, j9]; (first | refine ⟨_, pr, ?_⟩)) | ((first | refine x8 [] rfl ?_ | refine j8 [] rfl ?_); simp (disch := omega) only [go_sem, seval, hd, cb, x9, j9]; (repeat (first | refine ⟨by omega, ?_⟩ | refine ⟨True.intro, ?_⟩)))))
  refine q16 4 _ (.p (.d (.sl 4 ([] : List Cube).length (rowC [])))) rfl (z25 4 _ _ rfl) ?_
  refine q10 ⟨_, ?_, rfl⟩; rw [Tryz.results67]; simp (disch := omega) only [ResVars, ResVar, ptrLoc, go_sem, seval, hd, cb, x9, j9]
 ·rw [hs] at pr
  simp only [if_true] at pr ⊢
  rw [Bool.and_eq_true] at hs
  have h1 := x56 hs.1
  have h2 := x56 hs.2
  refine z12 Tryz.func67 rfl (by decide +kernel) (by rw [Tryz.ntmps67]; simp) ?_; rw [Tryz.ntmps67]; simp only [frOf]
  (repeat (first | apply j0 | refine q8 rfl ?_ | refine z8 rfl ?_ | apply x7 | (refine j4 fun K hK => ?_) | (refine x5 fun K hK => ?_) | ((first | apply j6 | apply z7 | ((first | refine x4 (hK _ ?_) | refine x6 (hK _ _ j5 ?_)); clear hK K)); (first | show AWP _ _ _ _ _ | ((try simp only [j7]); first | show loopQ _ _ _ _ _ _ | show cutQ _ _ _ _ | show AWP _ _ _ _ _))) | ((first | refine j10 rfl rfl rfl ?_ | refine q11 rfl rfl rfl ?_); simp (disch := omega) only [go_sem, seval, hd, cb, x9, j9]; (first | refine ⟨_, pr, ?_⟩)) | ((first | refine x8 [] rfl ?_ | refine j8 [] rfl ?_); simp (disch := omega) only [go_sem, seval, hd, cb, x9, j9]; (repeat (first | refine ⟨by omega, ?_⟩ | refine ⟨True.intro, ?_⟩)))))
  refine x31 7 7 4 53 (rowC []) rfl (by kernel_rfl) rfl ?_
  refine x13 (meetPI a b) (fun s => a.length - s.val.1) ⟨(0, []), by simp, by simp, by simp⟩ ?_ (fun s => ?_)
  ·unfold meetPI
   refine Weak.list ?_ ?_; (all_goals simp (disch := omega) only [AllF, AllL, x11, j11, z11, exists_eq_left', go_sem, seval, hd, cb, x9, j9]); (all_goals (repeat' (with_reducible apply And.intro))); (all_goals try (first | exact q9 rfl | (refine q12 ?_; omega) | (refine q9 ?_; simp; done)))
  obtain ⟨⟨i, out⟩, hi, he, ho⟩ := s
  unfold meetPI
  simp only [] at hi he ho
  have hio : i * b.length ≤ 200 * 200 := Nat.mul_le_mul (by omega) h2
  by_cases hn : i < a.length
  ·have r1 := q29 a i
   have st := j67 a i ⟨0, 0⟩ hn
   generalize a.getD i ⟨0, 0⟩ = X at r1 st
   (repeat (first | apply j0 | refine q8 rfl ?_ | refine z8 rfl ?_ | apply x7 | (refine j4 fun K hK => ?_) | (refine x5 fun K hK => ?_) | ((first | apply j6 | apply z7 | ((first | refine x4 (hK _ ?_) | refine x6 (hK _ _ j5 ?_)); clear hK K)); (first | show AWP _ _ _ _ _ | ((try simp only [j7]); first | show loopQ _ _ _ _ _ _ | show cutQ _ _ _ _ | show AWP _ _ _ _ _))) | ((first | refine x8 [] rfl ?_ | refine j8 [] rfl ?_); simp (disch := omega) only [go_sem, seval, hd, cb, x9, j9, r1]; (repeat (first | refine ⟨by omega, ?_⟩ | refine ⟨True.intro, ?_⟩)))))
   refine x13 (meetPJ a b X i out) (fun s => b.length - s.val.1) ⟨(0, out), by simp, by simp, by simp⟩ ?_ (fun s => ?_)
   ·unfold meetPJ cbA
    refine Weak.list ?_ ?_; (all_goals simp (disch := omega) only [AllF, AllL, x11, j11, z11, exists_eq_left', go_sem, seval, hd, cb, x9, j9, r1]); (all_goals (repeat' (with_reducible apply And.intro))); (all_goals try (first | exact q9 rfl | (refine q12 ?_; omega) | (refine q9 ?_; simp; done)))
   obtain ⟨⟨j, ou2⟩, hj, he2, ho2⟩ := s
   unfold meetPJ cbA
   simp only [] at hj he2 ho2
   by_cases hm : j < b.length
   ·have r2 := q29 b j
    have st2 := j67 b j ⟨0, 0⟩ hm
    generalize b.getD j ⟨0, 0⟩ = Y at r2 st2
    have mt := x93 X Y
    have so : (b.take (j + 1)).filterMap (meetOne X) = (b.take j).filterMap (meetOne X) ++ (if meetO X Y then [meetV X Y] else []) := by
     rw [st2, List.filterMap_append]
     congr 1
     cases h : meetO X Y <;> simp [meetOne, h]
    generalize meetV X Y = V at mt so
    cases h : meetO X Y
    all_goals
     rw [h] at mt so
     simp only [Bool.false_eq_true, if_false, if_true] at so
     (repeat (first | apply j0 | refine q8 rfl ?_ | refine z8 rfl ?_ | apply x7 | (refine j4 fun K hK => ?_) | (refine x5 fun K hK => ?_) | ((first | apply j6 | apply z7 | ((first | refine x4 (hK _ ?_) | refine x6 (hK _ _ j5 ?_)); clear hK K)); (first | show AWP _ _ _ _ _ | ((try simp only [j7]); first | show loopQ _ _ _ _ _ _ | show cutQ _ _ _ _ | show AWP _ _ _ _ _))) | ((first | refine j10 rfl rfl rfl ?_ | refine q11 rfl rfl rfl ?_); simp (disch := omega) only [go_sem, seval, hd, cb, x9, j9, r1, r2]; (first | refine ⟨_, mt, ?_⟩)) | ((first | refine x8 [] rfl ?_ | refine j8 [] rfl ?_); simp (disch := omega) only [go_sem, seval, hd, cb, x9, j9, r1, r2]; (repeat (first | refine ⟨by omega, ?_⟩ | refine ⟨True.intro, ?_⟩)))))
    ·refine ⟨⟨(j + 1, ou2), by simp only []; omega, by rw [so, List.append_nil]; exact he2, by simp only []; omega⟩, by simp only []; omega, ?_⟩
     refine Weak.list ?_ ?_; (all_goals simp (disch := omega) only [AllF, AllL, x11, j11, z11, exists_eq_left', go_sem, seval, hd, cb, x9, j9, r1, r2]); (all_goals (repeat' (with_reducible apply And.intro))); (all_goals try (first | exact q9 rfl | (refine q12 ?_; omega) | (refine q9 ?_; simp; done)))
    ·refine ⟨⟨(j + 1, ou2 ++ [V]), by simp only []; omega, by rw [so, ← List.append_assoc, ← he2], by simp; omega⟩, by simp only []; omega, ?_⟩
     refine Weak.list ?_ ?_; (all_goals simp (disch := omega) only [AllF, AllL, x11, j11, z11, exists_eq_left', go_sem, seval, hd, cb, x9, j9, r1, r2]); (all_goals (repeat' (with_reducible apply And.intro))); (all_goals try (first | exact q9 rfl | (refine q12 ?_; omega) | (refine q9 ?_; simp; done)))
     ·exact q31 (by simp) (by simp) (fun j hj => j98 ou2 V j hj)
     ·exact q51 (by simp) (by simp)
   ·have hjl : j = b.length := by omega
    subst hjl
    (repeat (first | apply j0 | refine q8 rfl ?_ | refine z8 rfl ?_ | apply x7 | (refine j4 fun K hK => ?_) | (refine x5 fun K hK => ?_) | ((first | apply j6 | apply z7 | ((first | refine x4 (hK _ ?_) | refine x6 (hK _ _ j5 ?_)); clear hK K)); (first | show AWP _ _ _ _ _ | ((try simp only [j7]); first | show loopQ _ _ _ _ _ _ | show cutQ _ _ _ _ | show AWP _ _ _ _ _))) | ((first | refine x8 [] rfl ?_ | refine j8 [] rfl ?_); simp (disch := omega) only [go_sem, seval, hd, cb, x9, j9, r1]; (repeat (first | refine ⟨by omega, ?_⟩ | refine ⟨True.intro, ?_⟩)))))
    refine ⟨⟨(i + 1, ou2), by simp only []; omega, ?_, ?_⟩, by simp only []; omega, ?_⟩
    ·rw [st, List.flatMap_append, ← he, he2, List.take_length]
     simp [meetRow]
    ·simp only []
     rw [Nat.add_mul, Nat.one_mul]; omega
    refine Weak.list ?_ ?_; (all_goals simp (disch := omega) only [AllF, AllL, x11, j11, z11, exists_eq_left', go_sem, seval, hd, cb, x9, j9, r1]); (all_goals (repeat' (with_reducible apply And.intro))); (all_goals try (first | exact q9 rfl | (refine q12 ?_; omega) | (refine q9 ?_; simp; done)))
  ·have hil : i = a.length := by omega
   subst hil
   rw [List.take_length] at he
   have ln := z99 out (by omega)
   have : out = meetsP a b := he
   rw [← this]
   (repeat (first | apply j0 | refine q8 rfl ?_ | refine z8 rfl ?_ | apply x7 | (refine j4 fun K hK => ?_) | (refine x5 fun K hK => ?_) | ((first | apply j6 | apply z7 | ((first | refine x4 (hK _ ?_) | refine x6 (hK _ _ j5 ?_)); clear hK K)); (first | show AWP _ _ _ _ _ | ((try simp only [j7]); first | show loopQ _ _ _ _ _ _ | show cutQ _ _ _ _ | show AWP _ _ _ _ _))) | ((first | refine j10 rfl rfl rfl ?_ | refine q11 rfl rfl rfl ?_); simp (disch := omega) only [go_sem, seval, hd, cb, x9, j9]; (first | refine ⟨_, ln, ?_⟩)) | ((first | refine x8 [] rfl ?_ | refine j8 [] rfl ?_); simp (disch := omega) only [go_sem, seval, hd, cb, x9, j9]; (repeat (first | refine ⟨by omega, ?_⟩ | refine ⟨True.intro, ?_⟩)))))
   refine q10 ⟨_, ?_, rfl⟩; rw [Tryz.results67]; simp (disch := omega) only [ResVars, ResVar, ptrLoc, go_sem, seval, hd, cb, x9, j9]
def lessRest (out : List Cube) (y : Cube) : List Cube := out.flatMap fun x => lessL x y
def lessP : List Cube → List Cube → List Cube × Int
 | [], out => (out, 0)
 | y :: r, out => if leanE (lessRest out y) = 0 then lessP r (leanV (lessRest out y)) else ([], leanE (lessRest out y))
theorem j99 (l : List Cube) : (leanV l).length ≤ 200 := by
 unfold leanV
 split
 ·simp
 ·omega
def lessPI (b : List Cube) (R : List Cube × Int) (s : {s : Nat × List Cube // s.1 ≤ b.length ∧ lessP (b.drop s.1) s.2 = R ∧ s.2.length ≤ 200}) : ASt :=
 ⟨[(24, .p (.d (.v (.int .i64 (s.val.1 : Int))))), (23, .p (.d (.v (.int .i64 (b.length : Int))))), (22, .p (.d (.sl 4 b.length (rowC b)))), (7, .p (.d (.sl 4 s.val.2.length (rowC s.val.2))))], []⟩
def lessPJ (b out : List Cube) (y : Cube) (i : Nat) (s : {s : Nat × List Cube // s.1 ≤ out.length ∧ s.2 = (out.take s.1).flatMap (fun x => lessL x y) ∧ s.2.length ≤ s.1 * 128}) : ASt :=
 ⟨[(30, .p (.d (.v (.int .i64 (s.val.1 : Int))))), (29, .p (.d (.v (.int .i64 (out.length : Int))))), (28, .p (.d (.sl 4 out.length (rowC out)))), (9, .loc 9 0), (10, .gr 10 s.val.1 4 s.val.2.length (rowC s.val.2)),
  (24, .p (.d (.v (.int .i64 (i : Int))))), (23, .p (.d (.v (.int .i64 (b.length : Int))))), (22, .p (.d (.sl 4 b.length (rowC b))))],
  [(9, .cells 53 (cbA y)), (10, .grow 53 4 s.val.2.length s.val.1)]⟩
theorem x152 (a b : Cube) : (lessL a b).length ≤ 128 := by
 have go : ∀ (more : BitVec 128) (n : Nat) (r : Cube), (lessGo b more n r).length ≤ n := by
  intro more n
  induction n with
  | zero => intro r; simp [lessGo]
  |succ n ih =>
   intro r
   unfold lessGo
   split
   ·have := ih ⟨r.v ||| b.v &&& ones 1 <<< n, r.c ||| ones 1 <<< n⟩; simp; omega
   ·have := ih r; omega
 unfold lessL
 split
 ·split
  ·exact go _ _ _
  ·simp
 ·simp
set_option maxRecDepth 100000 in
set_option maxHeartbeats 2000000 in
theorem j152 (a b : List Cube) (ha : a.length ≤ 1099511627776) (hb : b.length ≤ 1099511627776) (R : List Cube × Int) (hR : (if soundP a && soundP b then lessP b a else ([], 2)) = R) : ACalls Tryz.prog 68 [.d (.sl 4 a.length (rowC a)), .d (.sl 4 b.length (rowC b))]
  (· = [.d (.sl 4 R.1.length (rowC R.1)), .d (.v (.int .i64 R.2))]) := by
 have pr := x99 a b ha hb
 unfold pairE at pr
 cases hs : (soundP a && soundP b)
 ·rw [hs] at pr hR
  simp only [Bool.false_eq_true, if_false] at pr hR
  subst hR
  refine z12 Tryz.func68 rfl (by decide +kernel) (by rw [Tryz.ntmps68]; simp) ?_; rw [Tryz.ntmps68]; simp only [frOf]
  (repeat (first | apply j0 | refine q8 rfl ?_ | refine z8 rfl ?_ | apply x7 | (refine j4 fun K hK => ?_) | (refine x5 fun K hK => ?_) | ((first | apply j6 | apply z7 | ((first | refine x4 (hK _ ?_) | refine x6 (hK _ _ j5 ?_)); clear hK K)); (first | show AWP _ _ _ _ _ | ((try simp only [j7]); first | show loopQ _ _ _ _ _ _ | show cutQ _ _ _ _ | show AWP _ _ _ _ _))) | ((first | refine j10 rfl rfl rfl ?_ | refine q11 rfl rfl rfl ?_); simp (disch := omega) only [go_sem, seval, hd, cb, x9, j9]; (first | refine ⟨_, pr, ?_⟩)) | ((first | refine x8 [] rfl ?_ | refine j8 [] rfl ?_); simp (disch := omega) only [go_sem, seval, hd, cb, x9, j9]; (repeat (first | refine ⟨by omega, ?_⟩ | refine ⟨True.intro, ?_⟩)))))
  refine q16 4 _ (.p (.d (.sl 4 ([] : List Cube).length (rowC [])))) rfl (z25 4 _ _ rfl) ?_
  refine q10 ⟨_, ?_, rfl⟩; rw [Tryz.results68]; simp (disch := omega) only [ResVars, ResVar, ptrLoc, go_sem, seval, hd, cb, x9, j9]
 ·rw [hs] at pr hR
  simp only [if_true] at pr hR
  rw [Bool.and_eq_true] at hs
  have h1 := x56 hs.1
  have h2 := x56 hs.2
  have cl := Clone_c a ha
  refine z12 Tryz.func68 rfl (by decide +kernel) (by rw [Tryz.ntmps68]; simp) ?_; rw [Tryz.ntmps68]; simp only [frOf]
  (repeat (first | apply j0 | refine q8 rfl ?_ | refine z8 rfl ?_ | apply x7 | (refine j4 fun K hK => ?_) | (refine x5 fun K hK => ?_) | ((first | apply j6 | apply z7 | ((first | refine x4 (hK _ ?_) | refine x6 (hK _ _ j5 ?_)); clear hK K)); (first | show AWP _ _ _ _ _ | ((try simp only [j7]); first | show loopQ _ _ _ _ _ _ | show cutQ _ _ _ _ | show AWP _ _ _ _ _))) | ((first | refine j10 rfl rfl rfl ?_ | refine q11 rfl rfl rfl ?_); simp (disch := omega) only [go_sem, seval, hd, cb, x9, j9]; (first | refine ⟨_, pr, ?_⟩ | refine ⟨_, cl, ?_⟩)) | ((first | refine x8 [] rfl ?_ | refine j8 [] rfl ?_); simp (disch := omega) only [go_sem, seval, hd, cb, x9, j9]; (repeat (first | refine ⟨by omega, ?_⟩ | refine ⟨True.intro, ?_⟩)))))
  refine x13 (lessPI b R) (fun s => b.length - s.val.1) ⟨(0, a), by simp, by rw [List.drop_zero]; exact hR, h1⟩ ?_ (fun s => ?_)
  ·unfold lessPI
   refine Weak.list ?_ ?_; (all_goals simp (disch := omega) only [AllF, AllL, x11, j11, z11, exists_eq_left', go_sem, seval, hd, cb, x9, j9]); (all_goals (repeat' (with_reducible apply And.intro))); (all_goals try (first | exact q9 rfl | (refine q12 ?_; omega) | (refine q9 ?_; simp; done)))
  obtain ⟨⟨i, out⟩, hi, he, ho⟩ := s
  unfold lessPI
  simp only [] at hi he ho
  by_cases hn : i < b.length
  ·have r1 := q29 b i
   rw [j31 b i ⟨0, 0⟩ hn] at he
   generalize b.getD i ⟨0, 0⟩ = Y at r1 he
   (repeat ((fail_if_success (show AWP _ _ (.region 9 _ _) _ _)); first | apply j0 | refine q8 rfl ?_ | refine z8 rfl ?_ | apply x7 | (refine j4 fun K hK => ?_) | (refine x5 fun K hK => ?_) | ((first | apply j6 | apply z7 | ((first | refine x4 (hK _ ?_) | refine x6 (hK _ _ j5 ?_)); clear hK K)); (first | show AWP _ _ _ _ _ | ((try simp only [j7]); first | show loopQ _ _ _ _ _ _ | show cutQ _ _ _ _ | show AWP _ _ _ _ _))) | ((first | refine x8 [] rfl ?_ | refine j8 [] rfl ?_); simp (disch := omega) only [go_sem, seval, hd, cb, x9, j9, r1]; (repeat (first | refine ⟨by omega, ?_⟩ | refine ⟨True.intro, ?_⟩)))))
   refine x31 10 10 4 53 (rowC []) rfl (by kernel_rfl) rfl ?_
   (repeat (first | apply j0 | refine q8 rfl ?_ | refine z8 rfl ?_ | apply x7 | (refine j4 fun K hK => ?_) | (refine x5 fun K hK => ?_) | ((first | apply j6 | apply z7 | ((first | refine x4 (hK _ ?_) | refine x6 (hK _ _ j5 ?_)); clear hK K)); (first | show AWP _ _ _ _ _ | ((try simp only [j7]); first | show loopQ _ _ _ _ _ _ | show cutQ _ _ _ _ | show AWP _ _ _ _ _))) | ((first | refine x8 [] rfl ?_ | refine j8 [] rfl ?_); simp (disch := omega) only [go_sem, seval, hd, cb, x9, j9, r1]; (repeat (first | refine ⟨by omega, ?_⟩ | refine ⟨True.intro, ?_⟩)))))
   refine x13 (lessPJ b out Y i) (fun s => out.length - s.val.1) ⟨(0, []), by simp, by simp, by simp⟩ ?_ (fun s => ?_)
   ·unfold lessPJ cbA
    refine Weak.list ?_ ?_; (all_goals simp (disch := omega) only [AllF, AllL, x11, j11, z11, exists_eq_left', go_sem, seval, hd, cb, x9, j9, r1]); (all_goals (repeat' (with_reducible apply And.intro))); (all_goals try (first | exact q9 rfl | (refine q12 ?_; omega) | (refine q9 ?_; simp; done)))
   obtain ⟨⟨j, rest⟩, hj, he2, ho2⟩ := s
   unfold lessPJ cbA
   simp only [] at hj he2 ho2
   by_cases hm : j < out.length
   ·have r2 := q29 out j
    have st2 := j67 out j ⟨0, 0⟩ hm
    generalize out.getD j ⟨0, 0⟩ = X at r2 st2
    have ls := j150 X Y
    have ll := x152 X Y
    have so : (out.take (j + 1)).flatMap (fun x => lessL x Y) = (out.take j).flatMap (fun x => lessL x Y) ++ lessL X Y := by
     rw [st2, List.flatMap_append]; simp
    generalize lessL X Y = M at ls ll so
    (repeat (first | apply j0 | refine q8 rfl ?_ | refine z8 rfl ?_ | apply x7 | (refine j4 fun K hK => ?_) | (refine x5 fun K hK => ?_) | ((first | apply j6 | apply z7 | ((first | refine x4 (hK _ ?_) | refine x6 (hK _ _ j5 ?_)); clear hK K)); (first | show AWP _ _ _ _ _ | ((try simp only [j7]); first | show loopQ _ _ _ _ _ _ | show cutQ _ _ _ _ | show AWP _ _ _ _ _))) | ((first | refine j10 rfl rfl rfl ?_ | refine q11 rfl rfl rfl ?_); simp (disch := omega) only [go_sem, seval, hd, cb, x9, j9, r1, r2]; (first | refine ⟨_, ls, ?_⟩)) | ((first | refine x8 [] rfl ?_ | refine j8 [] rfl ?_); simp (disch := omega) only [go_sem, seval, hd, cb, x9, j9, r1, r2]; (repeat (first | refine ⟨by omega, ?_⟩ | refine ⟨True.intro, ?_⟩)))))
    refine ⟨⟨(j + 1, rest ++ M), by simp only []; omega, by rw [so, ← he2], by simp; omega⟩, by simp only []; omega, ?_⟩
    refine Weak.list ?_ ?_; (all_goals simp (disch := omega) only [AllF, AllL, x11, j11, z11, exists_eq_left', go_sem, seval, hd, cb, x9, j9, r1, r2]); (all_goals (repeat' (with_reducible apply And.intro))); (all_goals try (first | exact q9 rfl | (refine q12 ?_; omega) | (refine q9 ?_; simp; done)))
    ·exact q31 rfl (by simp) (fun k hk => q152 rest M k)
    ·exact q51 (by simp) rfl
   ·have hjl : j = out.length := by omega
    subst hjl
    rw [List.take_length] at he2
    have hre : rest = lessRest out Y := he2
    have ln := z99 rest (by omega)
    unfold lessP at he
    rw [← hre] at he
    have hv := j99 rest
    generalize leanV rest = V at ln he hv
    by_cases h0 : leanE rest = 0
    ·rw [if_pos h0] at he
     rw [h0] at ln
     (repeat (first | apply j0 | refine q8 rfl ?_ | refine z8 rfl ?_ | apply x7 | (refine j4 fun K hK => ?_) | (refine x5 fun K hK => ?_) | ((first | apply j6 | apply z7 | ((first | refine x4 (hK _ ?_) | refine x6 (hK _ _ j5 ?_)); clear hK K)); (first | show AWP _ _ _ _ _ | ((try simp only [j7]); first | show loopQ _ _ _ _ _ _ | show cutQ _ _ _ _ | show AWP _ _ _ _ _))) | ((first | refine j10 rfl rfl rfl ?_ | refine q11 rfl rfl rfl ?_); simp (disch := omega) only [go_sem, seval, hd, cb, x9, j9, r1]; (first | refine ⟨_, ln, ?_⟩)) | ((first | refine x8 [] rfl ?_ | refine j8 [] rfl ?_); simp (disch := omega) only [go_sem, seval, hd, cb, x9, j9, r1]; (repeat (first | refine ⟨by omega, ?_⟩ | refine ⟨True.intro, ?_⟩)))))
     refine ⟨⟨(i + 1, V), by simp only []; omega, he, hv⟩, by simp only []; omega, ?_⟩
     refine Weak.list ?_ ?_; (all_goals simp (disch := omega) only [AllF, AllL, x11, j11, z11, exists_eq_left', go_sem, seval, hd, cb, x9, j9, r1]); (all_goals (repeat' (with_reducible apply And.intro))); (all_goals try (first | exact q9 rfl | (refine q12 ?_; omega) | (refine q9 ?_; simp; done)))
    ·rw [if_neg h0] at he
     have h10 : leanE rest = 10 := by unfold leanE at h0 ⊢; split <;> simp_all
     rw [h10] at ln he
     subst he
     (repeat (first | apply j0 | refine q8 rfl ?_ | refine z8 rfl ?_ | apply x7 | (refine j4 fun K hK => ?_) | (refine x5 fun K hK => ?_) | ((first | apply j6 | apply z7 | ((first | refine x4 (hK _ ?_) | refine x6 (hK _ _ j5 ?_)); clear hK K)); (first | show AWP _ _ _ _ _ | ((try simp only [j7]); first | show loopQ _ _ _ _ _ _ | show cutQ _ _ _ _ | show AWP _ _ _ _ _))) | ((first | refine j10 rfl rfl rfl ?_ | refine q11 rfl rfl rfl ?_); simp (disch := omega) only [go_sem, seval, hd, cb, x9, j9, r1]; (first | refine ⟨_, ln, ?_⟩)) | ((first | refine x8 [] rfl ?_ | refine j8 [] rfl ?_); simp (disch := omega) only [go_sem, seval, hd, cb, x9, j9, r1]; (repeat (first | refine ⟨by omega, ?_⟩ | refine ⟨True.intro, ?_⟩)))))
     refine q16 4 _ (.p (.d (.sl 4 ([] : List Cube).length (rowC [])))) rfl (z25 4 _ _ rfl) ?_
     refine q10 ⟨_, ?_, rfl⟩; rw [Tryz.results68]; simp (disch := omega) only [ResVars, ResVar, ptrLoc, go_sem, seval, hd, cb, x9, j9, r1]
  ·have hil : i = b.length := by omega
   subst hil
   rw [List.drop_length] at he
   unfold lessP at he
   subst he
   have cp := q98 out.length (rowC out) (by omega)
   (repeat (first | apply j0 | refine q8 rfl ?_ | refine z8 rfl ?_ | apply x7 | (refine j4 fun K hK => ?_) | (refine x5 fun K hK => ?_) | ((first | apply j6 | apply z7 | ((first | refine x4 (hK _ ?_) | refine x6 (hK _ _ j5 ?_)); clear hK K)); (first | show AWP _ _ _ _ _ | ((try simp only [j7]); first | show loopQ _ _ _ _ _ _ | show cutQ _ _ _ _ | show AWP _ _ _ _ _))) | ((first | refine j10 rfl rfl rfl ?_ | refine q11 rfl rfl rfl ?_); simp (disch := omega) only [go_sem, seval, hd, cb, x9, j9]; (first | refine ⟨_, cp, ?_⟩)) | ((first | refine x8 [] rfl ?_ | refine j8 [] rfl ?_); simp (disch := omega) only [go_sem, seval, hd, cb, x9, j9]; (repeat (first | refine ⟨by omega, ?_⟩ | refine ⟨True.intro, ?_⟩)))))
   refine q10 ⟨_, ?_, rfl⟩; rw [Tryz.results68]; simp (disch := omega) only [ResVars, ResVar, ptrLoc, go_sem, seval, hd, cb, x9, j9]
def lessPR (a b : List Cube) : List Cube × Int := if soundP a && soundP b then lessP b a else ([], 2)
theorem LessP_c (a b : List Cube) (ha : a.length ≤ 1099511627776) (hb : b.length ≤ 1099511627776) : ACalls Tryz.prog 68 [.d (.sl 4 a.length (rowC a)), .d (.sl 4 b.length (rowC b))]
  (· = [.d (.sl 4 (lessPR a b).1.length (rowC (lessPR a b).1)), .d (.v (.int .i64 (lessPR a b).2))]) := j152 a b ha hb _ rfl
theorem q100 : ∀ (b a : List Cube), (lessP b a).2 = 0 ∨ (lessP b a).2 = 10 ∧ (lessP b a).1 = []
 | [], a => .inl rfl
 |y :: r, a => by
  unfold lessP
  split
  ·exact q100 r _
  ·rename_i h
   refine .inr ⟨?_, rfl⟩
   unfold leanE at h ⊢
   simp only []
   split <;> simp_all
def findO (l : List Rule) (h : BitVec 128) : List Nat → Option Nat
 | [] => none
 | n :: r => if hasC (l.getD n r0).mt h then some n else findO l h r
def findR (l : List Rule) (h : BitVec 128) : Option Nat := findO l h (orderR l)
theorem q153 (r : Rule) : ACalls Tryz.prog 163 [.agg (ruleD r)] (· = [.d (.v (.bool (!r.mt.sound)))]) := by
 have k := z18 r.mt
 unfold cb at k
 unfold ruleD
 refine z12 Tryz.func163 rfl (by decide +kernel) (by rw [Tryz.ntmps163]; simp) ?_; rw [Tryz.ntmps163]; simp only [frOf]
 (repeat (first | apply j0 | refine q8 rfl ?_ | refine z8 rfl ?_ | apply x7 | (refine j4 fun K hK => ?_) | (refine x5 fun K hK => ?_) | ((first | apply j6 | apply z7 | ((first | refine x4 (hK _ ?_) | refine x6 (hK _ _ j5 ?_)); clear hK K)); (first | show AWP _ _ _ _ _ | ((try simp only [j7]); first | show loopQ _ _ _ _ _ _ | show cutQ _ _ _ _ | show AWP _ _ _ _ _))) | ((first | refine j10 rfl rfl rfl ?_ | refine q11 rfl rfl rfl ?_); simp (disch := omega) only [go_sem, seval, hd, cb, ruleD]; (first | refine ⟨_, k, ?_⟩)) | ((first | refine x8 [] rfl ?_ | refine j8 [] rfl ?_); simp (disch := omega) only [go_sem, seval, hd, cb, ruleD]; (repeat (first | refine ⟨by omega, ?_⟩ | refine ⟨True.intro, ?_⟩)))))
 refine q10 ⟨_, ?_, rfl⟩; rw [Tryz.results163]; simp (disch := omega) only [ResVars, ResVar, ptrLoc, go_sem, seval, hd, cb, ruleD]
def soundL (l : List Rule) : Bool := l.all fun r => r.mt.sound
theorem z153 (l : List Rule) (hl : l.length ≤ 1099511627776) : ACalls Tryz.prog 138 [.d (.sl 12 l.length (rowR l))] (· = [.d (.v (.bool (soundL l)))]) := by
 have k := x98 163 [] (fun r => !r.mt.sound) l (by omega) (fun k _ => q153 k)
 have e : (!l.any fun r => !r.mt.sound) = soundL l := by unfold soundL; rw [List.all_eq_not_any_not]
 refine z12 Tryz.func138 rfl (by decide +kernel) (by rw [Tryz.ntmps138]; simp) ?_; rw [Tryz.ntmps138]; simp only [frOf]
 (repeat (first | apply j0 | refine q8 rfl ?_ | refine z8 rfl ?_ | apply x7 | (refine j4 fun K hK => ?_) | (refine x5 fun K hK => ?_) | ((first | apply j6 | apply z7 | ((first | refine x4 (hK _ ?_) | refine x6 (hK _ _ j5 ?_)); clear hK K)); (first | show AWP _ _ _ _ _ | ((try simp only [j7]); first | show loopQ _ _ _ _ _ _ | show cutQ _ _ _ _ | show AWP _ _ _ _ _))) | ((first | refine j10 rfl rfl rfl ?_ | refine q11 rfl rfl rfl ?_); simp (disch := omega) only [go_sem, seval, hd, cb, ruleD]; (first | refine ⟨_, k, ?_⟩)) | ((first | refine x8 [] rfl ?_ | refine j8 [] rfl ?_); simp (disch := omega) only [go_sem, seval, hd, cb, ruleD]; (repeat (first | refine ⟨by omega, ?_⟩ | refine ⟨True.intro, ?_⟩)))))
 refine q10 ⟨_, ?_, rfl⟩; rw [Tryz.results138]; simp (disch := omega) only [ResVars, ResVar, ptrLoc, go_sem, seval, hd, cb, ruleD]
 rw [e]
end Go.Proofs.YtemcdefpihkfpaaGreat
namespace Go.Proofs.YtemcdefpihkfpaaGreat
open Go.Proofs.YtemcdefpihkfpaaGreat.AL Go.RowKit
end Go.Proofs.YtemcdefpihkfpaaGreat
namespace Go.Proofs.YtemcdefpihkfpaaGreat
open Go.Proofs.YtemcdefpihkfpaaGreat.AL
def bitsI (x : BitVec 128) (i : Fin 129) : ASt := ⟨[(4, .p (.d (.v (.int .i64 (i.val : Int))))), (3, .loc 3 0), (2, .loc 2 0), (1, .p (.d (.bx (hd x))))],
 [(3, .arr 112 128 fun j => .v (.bool (decide (j < i.val) && x.getLsbD j))), (2, .arr 112 128 fun _ => .v (.bool false))]⟩
theorem j69 (x : BitVec 128) : ACalls Tryz.prog 55 [.agg (hd x)] (· = [.arr 128 fun i => .v (.bool (x.getLsbD i))]) := by
 refine z12 Tryz.func55 rfl (by decide +kernel) (by rw [Tryz.ntmps55]; simp) ?_; rw [Tryz.ntmps55]; simp only [frOf]
 (repeat refine j0 ?_); (first | refine j4 fun K hK => ?_ | refine x5 fun K hK => ?_); (first | refine z10 [] _ _ ?_ | refine x10 [] _ _ _ ?_); simp (disch := omega) only [go_sem, seval, hd, cb]; (repeat refine ⟨by omega, ?_⟩); (first | (refine x4 (hK _ ?_); clear hK K; show AWP _ _ _ _ _) | (refine x6 (hK _ _ j5 ?_); clear hK K; show AWP _ _ _ _ _))
 (repeat refine j0 ?_); (first | refine j4 fun K hK => ?_ | refine x5 fun K hK => ?_); (first | refine z10 [] _ _ ?_ | refine x10 [] _ _ _ ?_); simp (disch := omega) only [go_sem, seval, hd, cb]; (repeat refine ⟨by omega, ?_⟩); (first | (refine x4 (hK _ ?_); clear hK K; show AWP _ _ _ _ _) | (refine x6 (hK _ _ j5 ?_); clear hK K; show AWP _ _ _ _ _))
 (repeat refine j0 ?_); (first | refine j4 fun K hK => ?_ | refine x5 fun K hK => ?_); (first | refine z10 [] _ _ ?_ | refine x10 [] _ _ _ ?_); simp (disch := omega) only [go_sem, seval, hd, cb]; (repeat refine ⟨by omega, ?_⟩); (first | (refine x4 (hK _ ?_); clear hK K; show AWP _ _ _ _ _) | (refine x6 (hK _ _ j5 ?_); clear hK K; show AWP _ _ _ _ _))
 refine x7 (x13 (bitsI x) (fun i => 128 - i.val) ⟨0, by omega⟩ ?_ (fun i => ?_))
 ·unfold bitsI
  refine Weak.list ?_ ?_; (all_goals simp (disch := omega) only [AllF, AllL, x11, j11, z11, exists_eq_left', go_sem, seval, hd, cb]); (all_goals (repeat' (with_reducible apply And.intro))); (all_goals try (first | exact q9 rfl | (refine q12 ?_; omega) | (refine q9 ?_; simp; done)))
  exact ⟨rfl, rfl, fun i _ => by simp⟩
 unfold bitsI
 by_cases hn : i.val < 128
 ·(repeat refine j0 ?_); (first | refine j4 fun K hK => ?_ | refine x5 fun K hK => ?_); (first | refine z10 [] _ _ ?_ | refine x10 [] _ _ _ ?_); simp (disch := omega) only [go_sem, seval, hd, cb]; (repeat refine ⟨by omega, ?_⟩); (first | (refine x4 (hK _ ?_); clear hK K; show AWP _ _ _ _ _) | (refine x6 (hK _ _ j5 ?_); clear hK K; show AWP _ _ _ _ _))
  (repeat refine j0 ?_); refine j14 rfl (fun _ => ?_) (fun ht => absurd ht (by decide))
  refine j6 ?_; show AWP _ _ _ _ _
  refine j0 (x7 ?_)
  (repeat refine j0 ?_); (first | refine j4 fun K hK => ?_ | refine x5 fun K hK => ?_); (first | refine z10 [] _ _ ?_ | refine x10 [] _ _ _ ?_); simp (disch := omega) only [go_sem, seval, hd, cb]; (repeat refine ⟨by omega, ?_⟩); (first | (refine x4 (hK _ ?_); clear hK K; show AWP _ _ _ _ _) | (refine x6 (hK _ _ j5 ?_); clear hK K; show AWP _ _ _ _ _))
  by_cases h6 : i.val < 64
  ·refine j14 rfl (fun _ => ?_) (fun ht => by simp at ht; omega)
   (repeat refine j0 ?_); (first | refine j4 fun K hK => ?_ | refine x5 fun K hK => ?_); (first | refine z10 [] _ _ ?_ | refine x10 [] _ _ _ ?_); simp (disch := omega) only [go_sem, seval, hd, cb]; (repeat refine ⟨by omega, ?_⟩); (first | (refine x4 (hK _ ?_); clear hK K; show AWP _ _ _ _ _) | (refine x6 (hK _ _ j5 ?_); clear hK K; show AWP _ _ _ _ _))
   (repeat refine j0 ?_); (first | refine j4 fun K hK => ?_ | refine x5 fun K hK => ?_)
   (first | refine z10 [] _ _ ?_ | refine x10 [] _ _ _ ?_); simp (disch := omega) only [go_sem, seval, hd, cb]; (repeat refine ⟨by omega, ?_⟩)
   (first | (refine x4 (hK _ ?_); clear hK K; show loopQ _ _ _ _ _ _) | (refine x6 (hK _ _ j5 ?_); clear hK K; show loopQ _ _ _ _ _ _))
   refine ⟨⟨i.val + 1, by omega⟩, by simp only []; omega, ?_⟩
   refine Weak.list ?_ ?_; (all_goals simp (disch := omega) only [AllF, AllL, x11, j11, z11, exists_eq_left', go_sem, seval, hd, cb]); (all_goals (repeat' (with_reducible apply And.intro))); (all_goals try (first | exact q9 rfl | (refine q12 ?_; omega) | (refine q9 ?_; simp; done)))
   ·refine ⟨rfl, rfl, fun j hj => ?_⟩
    simp only [rem_lo x i.val h6]
    split
    ·rename_i e; subst e; simp
    ·rename_i e; simp; by_cases hlt : j < i.val
     ·simp [hlt, show j < i.val + 1 from by omega]
     ·simp [hlt, show ¬ j < i.val + 1 from by omega]
  ·refine j14 rfl (fun ht => by simp at ht; omega) (fun _ => ?_)
   (repeat refine j0 ?_); (first | refine j4 fun K hK => ?_ | refine x5 fun K hK => ?_); (first | refine z10 [] _ _ ?_ | refine x10 [] _ _ _ ?_); simp (disch := omega) only [go_sem, seval, hd, cb]; (repeat refine ⟨by omega, ?_⟩); (first | (refine x4 (hK _ ?_); clear hK K; show AWP _ _ _ _ _) | (refine x6 (hK _ _ j5 ?_); clear hK K; show AWP _ _ _ _ _))
   (repeat refine j0 ?_); (first | refine j4 fun K hK => ?_ | refine x5 fun K hK => ?_)
   (first | refine z10 [] _ _ ?_ | refine x10 [] _ _ _ ?_); simp (disch := omega) only [go_sem, seval, hd, cb]; (repeat refine ⟨by omega, ?_⟩)
   (first | (refine x4 (hK _ ?_); clear hK K; show loopQ _ _ _ _ _ _) | (refine x6 (hK _ _ j5 ?_); clear hK K; show loopQ _ _ _ _ _ _))
   refine ⟨⟨i.val + 1, by omega⟩, by simp only []; omega, ?_⟩
   refine Weak.list ?_ ?_; (all_goals simp (disch := omega) only [AllF, AllL, x11, j11, z11, exists_eq_left', go_sem, seval, hd, cb]); (all_goals (repeat' (with_reducible apply And.intro))); (all_goals try (first | exact q9 rfl | (refine q12 ?_; omega) | (refine q9 ?_; simp; done)))
   ·refine ⟨rfl, rfl, fun j hj => ?_⟩
    simp only [rem_hi x i.val (by omega) hn]
    split
    ·rename_i e; subst e; simp
    ·rename_i e; simp; by_cases hlt : j < i.val
     ·simp [hlt, show j < i.val + 1 from by omega]
     ·simp [hlt, show ¬ j < i.val + 1 from by omega]
 ·(repeat refine j0 ?_); (first | refine j4 fun K hK => ?_ | refine x5 fun K hK => ?_); (first | refine z10 [] _ _ ?_ | refine x10 [] _ _ _ ?_); simp (disch := omega) only [go_sem, seval, hd, cb]; (repeat refine ⟨by omega, ?_⟩); (first | (refine x4 (hK _ ?_); clear hK K; show AWP _ _ _ _ _) | (refine x6 (hK _ _ j5 ?_); clear hK K; show AWP _ _ _ _ _))
  refine j14 rfl (fun ht => absurd ht (by decide)) (fun _ => ?_)
  refine z7 ?_
  show AWP _ _ _ _ _
  (repeat refine j0 ?_); (first | refine j4 fun K hK => ?_ | refine x5 fun K hK => ?_); (first | refine z10 [] _ _ ?_ | refine x10 [] _ _ _ ?_); simp (disch := omega) only [go_sem, seval, hd, cb]; (repeat refine ⟨by omega, ?_⟩); (first | (refine x4 (hK _ ?_); clear hK K; show AWP _ _ _ _ _) | (refine x6 (hK _ _ j5 ?_); clear hK K; show AWP _ _ _ _ _))
  refine q10 ⟨_, ?_, rfl⟩; rw [Tryz.results55]; simp (disch := omega) only [ResVars, ResVar, ptrLoc, go_sem, seval, hd, cb]
  simp only [PV.arr.injEq, true_and]
  funext j
  by_cases hlt : j < i.val
  ·simp [hlt]
  ·simp [hlt, BitVec.getLsbD_of_ge x j (by omega)]
def textI (k : Cube) (s : {i : Fin 129 // ∀ j, j < i.val → k.v.getLsbD j = true → k.c.getLsbD j = true}) : ASt :=
 ⟨[(7, .p (.d (.v (.int .i64 (s.val.val : Int))))), (6, .row 15 1 0 128), (5, .loc 5 0), (4, .loc 4 0)],
  [(15, .arr 5 128 fun j => .v (.int .u8 (if 127 - j < s.val.val then chI k (127 - j) else 0))), (5, .arr 112 128 fun j => .v (.bool (k.c.getLsbD j))), (4, .arr 112 128 fun j => .v (.bool (k.v.getLsbD j)))]⟩
theorem q70 (k : Cube) (c : Int) (i j : Nat) (hi : i < 128) (hj : j < 128) (hc : chI k i = c) :
  (if j = 127 - i then Dat.v (.int .u8 c) else Dat.v (.int .u8 (if 127 - j < i then chI k (127 - j) else 0))) = Dat.v (.int .u8 (if 127 - j < i + 1 then chI k (127 - j) else 0)) := by
 by_cases h : j = 127 - i
 ·rw [if_pos h, if_pos (by omega), show 127 - j = i from by omega, hc]
 ·rw [if_neg h]
  by_cases h2 : 127 - j < i
  ·rw [if_pos h2, if_pos (by omega)]
  ·rw [if_neg h2, if_neg (by omega)]
theorem Text_c (k : Cube) : ACalls Tryz.prog 24 [.agg (cb k)] (· = [.d (.v (.string (if k.sound then txt k else ⟨#[]⟩))), .d (.v (.bool k.sound))]) := by
 refine z12 Tryz.func24 rfl (by decide +kernel) (by rw [Tryz.ntmps24]; simp) ?_; rw [Tryz.ntmps24]; simp only [frOf]
 (repeat refine j0 ?_); (first | refine j4 fun K hK => ?_ | refine x5 fun K hK => ?_); (first | refine z10 [] _ _ ?_ | refine x10 [] _ _ _ ?_); simp (disch := omega) only [go_sem, seval, hd, cb]; (repeat refine ⟨by omega, ?_⟩); (first | (refine x4 (hK _ ?_); clear hK K; show AWP _ _ _ _ _) | (refine x6 (hK _ _ j5 ?_); clear hK K; show AWP _ _ _ _ _))
 (repeat refine j0 ?_); (first | refine j4 fun K hK => ?_ | refine x5 fun K hK => ?_)
 (first | refine z10 [] _ _ ?_ | refine x10 [] _ _ _ ?_); simp (disch := omega) only [go_sem, seval, hd, cb]; (repeat refine ⟨by omega, ?_⟩)
 (first | refine j10 rfl rfl rfl ?_ | refine q11 rfl rfl rfl ?_); simp (disch := omega) only [go_sem, seval, hd, cb]
 refine ⟨_, j69 k.v, ?_⟩
 (first | refine z10 [] _ _ ?_ | refine x10 [] _ _ _ ?_); simp (disch := omega) only [go_sem, seval, hd, cb]; (repeat refine ⟨by omega, ?_⟩)
 (first | refine j10 rfl rfl rfl ?_ | refine q11 rfl rfl rfl ?_); simp (disch := omega) only [go_sem, seval, hd, cb]
 refine ⟨_, j69 k.c, ?_⟩
 (first | refine z10 [] _ _ ?_ | refine x10 [] _ _ _ ?_); simp (disch := omega) only [go_sem, seval, hd, cb]; (repeat refine ⟨by omega, ?_⟩)
 (first | (refine x4 (hK _ ?_); clear hK K; show AWP _ _ _ _ _) | (refine x6 (hK _ _ j5 ?_); clear hK K; show AWP _ _ _ _ _))
 (repeat refine j0 ?_); (first | refine j4 fun K hK => ?_ | refine x5 fun K hK => ?_); (first | refine z10 [] _ _ ?_ | refine x10 [] _ _ _ ?_); simp (disch := omega) only [go_sem, seval, hd, cb]; (repeat refine ⟨by omega, ?_⟩); (first | (refine x4 (hK _ ?_); clear hK K; show AWP _ _ _ _ _) | (refine x6 (hK _ _ j5 ?_); clear hK K; show AWP _ _ _ _ _))
 (repeat refine j0 ?_); (first | refine j4 fun K hK => ?_ | refine x5 fun K hK => ?_); (first | refine z10 [] _ _ ?_ | refine x10 [] _ _ _ ?_); simp (disch := omega) only [go_sem, seval, hd, cb]; (repeat refine ⟨by omega, ?_⟩); (first | (refine x4 (hK _ ?_); clear hK K; show AWP _ _ _ _ _) | (refine x6 (hK _ _ j5 ?_); clear hK K; show AWP _ _ _ _ _))
 refine x7 (x13 (textI k) (fun s => 128 - s.val.val) ⟨⟨0, by omega⟩, fun j hj => by simp at hj⟩ ?_ (fun s => ?_))
 ·unfold textI
  refine Weak.list ?_ ?_; (all_goals simp (disch := omega) only [AllF, AllL, x11, j11, z11, exists_eq_left', go_sem, seval, hd, cb]); (all_goals (repeat' (with_reducible apply And.intro))); (all_goals try (first | exact q9 rfl | (refine q12 ?_; omega) | (refine q9 ?_; simp; done)))
  ·exact ⟨rfl, rfl, fun j _ => by simp⟩
 obtain ⟨⟨i, hi9⟩, hs⟩ := s
 unfold textI
 simp only [] at hs
 by_cases hn : i < 128
 ·cases hv : k.v.getLsbD i <;> cases hc : k.c.getLsbD i
  all_goals
   (repeat refine j0 ?_); (first | refine j4 fun K hK => ?_ | refine x5 fun K hK => ?_); (first | refine z10 [] _ _ ?_ | refine x10 [] _ _ _ ?_); simp (disch := omega) only [go_sem, seval, hd, cb, hv, hc]; (repeat refine ⟨by omega, ?_⟩); (first | (refine x4 (hK _ ?_); clear hK K; show AWP _ _ _ _ _) | (refine x6 (hK _ _ j5 ?_); clear hK K; show AWP _ _ _ _ _))
   (repeat refine j0 ?_); refine j14 rfl (fun _ => ?_) (fun ht => absurd ht (by decide))
   refine j6 ?_; show AWP _ _ _ _ _
   refine j0 (x7 ?_)
   (repeat refine j0 ?_); (first | refine j4 fun K hK => ?_ | refine x5 fun K hK => ?_); (first | refine z10 [] _ _ ?_ | refine x10 [] _ _ _ ?_); simp (disch := omega) only [go_sem, seval, hd, cb, hv, hc]; (repeat refine ⟨by omega, ?_⟩); (first | (refine x4 (hK _ ?_); clear hK K; show AWP _ _ _ _ _) | (refine x6 (hK _ _ j5 ?_); clear hK K; show AWP _ _ _ _ _))
  ·(repeat refine j0 ?_); refine j14 rfl (fun ht => absurd ht (by decide)) (fun _ => ?_); refine j6 ?_; show AWP _ _ _ _ _
   (repeat refine j0 ?_); (first | refine j4 fun K hK => ?_ | refine x5 fun K hK => ?_); (first | refine z10 [] _ _ ?_ | refine x10 [] _ _ _ ?_); simp (disch := omega) only [go_sem, seval, hd, cb, hv, hc]; (repeat refine ⟨by omega, ?_⟩); (first | (refine x4 (hK _ ?_); clear hK K; show AWP _ _ _ _ _) | (refine x6 (hK _ _ j5 ?_); clear hK K; show AWP _ _ _ _ _))
   (repeat refine j0 ?_); (first | refine j4 fun K hK => ?_ | refine x5 fun K hK => ?_); (first | refine z10 [] _ _ ?_ | refine x10 [] _ _ _ ?_); simp (disch := omega) only [go_sem, seval, hd, cb, hv, hc]; (repeat refine ⟨by omega, ?_⟩); (first | (refine x4 (hK _ ?_); clear hK K; show AWP _ _ _ _ _) | (refine x6 (hK _ _ j5 ?_); clear hK K; show AWP _ _ _ _ _))
   (repeat refine j0 ?_); refine j14 rfl (fun ht => absurd ht (by decide)) (fun _ => ?_); refine j6 ?_; show AWP _ _ _ _ _
   (repeat refine j0 ?_); (first | refine j4 fun K hK => ?_ | refine x5 fun K hK => ?_); (first | refine z10 [] _ _ ?_ | refine x10 [] _ _ _ ?_); simp (disch := omega) only [go_sem, seval, hd, cb, hv, hc]; (repeat refine ⟨by omega, ?_⟩); (first | (refine x4 (hK _ ?_); clear hK K; show AWP _ _ _ _ _) | (refine x6 (hK _ _ j5 ?_); clear hK K; show AWP _ _ _ _ _))
   (repeat refine j0 ?_); refine j14 rfl (fun ht => absurd ht (by decide)) (fun _ => ?_); refine j6 ?_; show AWP _ _ _ _ _
   (repeat refine j0 ?_); (first | refine j4 fun K hK => ?_ | refine x5 fun K hK => ?_); (first | refine z10 [] _ _ ?_ | refine x10 [] _ _ _ ?_); simp (disch := omega) only [go_sem, seval, hd, cb, hv, hc]; (repeat refine ⟨by omega, ?_⟩); (first | (refine x4 (hK _ ?_); clear hK K; show AWP _ _ _ _ _) | (refine x6 (hK _ _ j5 ?_); clear hK K; show AWP _ _ _ _ _))
   (repeat refine j0 ?_); (first | refine j4 fun K hK => ?_ | refine x5 fun K hK => ?_)
   (first | refine z10 [] _ _ ?_ | refine x10 [] _ _ _ ?_); simp (disch := omega) only [go_sem, seval, hd, cb, hv, hc]; (repeat refine ⟨by omega, ?_⟩)
   (first | (refine x4 (hK _ ?_); clear hK K; show loopQ _ _ _ _ _ _) | (refine x6 (hK _ _ j5 ?_); clear hK K; show loopQ _ _ _ _ _ _))
   refine ⟨⟨⟨i + 1, by omega⟩, fun j hj hvj => ?_⟩, by simp only []; omega, ?_⟩
   ·by_cases e : j = i
    ·subst e; first | exact hc | (rw [hv] at hvj; cases hvj)
    ·exact hs j (by simp at hj; omega) hvj
   refine Weak.list ?_ ?_; (all_goals simp (disch := omega) only [AllF, AllL, x11, j11, z11, exists_eq_left', go_sem, seval, hd, cb, hv, hc]); (all_goals (repeat' (with_reducible apply And.intro))); (all_goals try (first | exact q9 rfl | (refine q12 ?_; omega) | (refine q9 ?_; simp; done)))
   ·exact ⟨rfl, rfl, fun j hj => q70 k _ i j hn hj (by simp [chI, hv, hc])⟩
  ·(repeat refine j0 ?_); refine j14 rfl (fun ht => absurd ht (by decide)) (fun _ => ?_); refine j6 ?_; show AWP _ _ _ _ _
   (repeat refine j0 ?_); (first | refine j4 fun K hK => ?_ | refine x5 fun K hK => ?_); (first | refine z10 [] _ _ ?_ | refine x10 [] _ _ _ ?_); simp (disch := omega) only [go_sem, seval, hd, cb, hv, hc]; (repeat refine ⟨by omega, ?_⟩); (first | (refine x4 (hK _ ?_); clear hK K; show AWP _ _ _ _ _) | (refine x6 (hK _ _ j5 ?_); clear hK K; show AWP _ _ _ _ _))
   (repeat refine j0 ?_); (first | refine j4 fun K hK => ?_ | refine x5 fun K hK => ?_); (first | refine z10 [] _ _ ?_ | refine x10 [] _ _ _ ?_); simp (disch := omega) only [go_sem, seval, hd, cb, hv, hc]; (repeat refine ⟨by omega, ?_⟩); (first | (refine x4 (hK _ ?_); clear hK K; show AWP _ _ _ _ _) | (refine x6 (hK _ _ j5 ?_); clear hK K; show AWP _ _ _ _ _))
   (repeat refine j0 ?_); refine j14 rfl (fun ht => absurd ht (by decide)) (fun _ => ?_); refine j6 ?_; show AWP _ _ _ _ _
   (repeat refine j0 ?_); (first | refine j4 fun K hK => ?_ | refine x5 fun K hK => ?_); (first | refine z10 [] _ _ ?_ | refine x10 [] _ _ _ ?_); simp (disch := omega) only [go_sem, seval, hd, cb, hv, hc]; (repeat refine ⟨by omega, ?_⟩); (first | (refine x4 (hK _ ?_); clear hK K; show AWP _ _ _ _ _) | (refine x6 (hK _ _ j5 ?_); clear hK K; show AWP _ _ _ _ _))
   (repeat refine j0 ?_); refine j14 rfl (fun _ => ?_) (fun ht => absurd ht (by decide))
   (repeat refine j0 ?_); (first | refine j4 fun K hK => ?_ | refine x5 fun K hK => ?_); (first | refine z10 [] _ _ ?_ | refine x10 [] _ _ _ ?_); simp (disch := omega) only [go_sem, seval, hd, cb, hv, hc]; (repeat refine ⟨by omega, ?_⟩); (first | (refine x4 (hK _ ?_); clear hK K; show AWP _ _ _ _ _) | (refine x6 (hK _ _ j5 ?_); clear hK K; show AWP _ _ _ _ _))
   (repeat refine j0 ?_); (first | refine j4 fun K hK => ?_ | refine x5 fun K hK => ?_); (first | refine z10 [] _ _ ?_ | refine x10 [] _ _ _ ?_); simp (disch := omega) only [go_sem, seval, hd, cb, hv, hc]; (repeat refine ⟨by omega, ?_⟩); (first | (refine x4 (hK _ ?_); clear hK K; show AWP _ _ _ _ _) | (refine x6 (hK _ _ j5 ?_); clear hK K; show AWP _ _ _ _ _))
   (repeat refine j0 ?_); (first | refine j4 fun K hK => ?_ | refine x5 fun K hK => ?_)
   (first | refine z10 [] _ _ ?_ | refine x10 [] _ _ _ ?_); simp (disch := omega) only [go_sem, seval, hd, cb, hv, hc]; (repeat refine ⟨by omega, ?_⟩)
   (first | (refine x4 (hK _ ?_); clear hK K; show loopQ _ _ _ _ _ _) | (refine x6 (hK _ _ j5 ?_); clear hK K; show loopQ _ _ _ _ _ _))
   refine ⟨⟨⟨i + 1, by omega⟩, fun j hj hvj => ?_⟩, by simp only []; omega, ?_⟩
   ·by_cases e : j = i
    ·subst e; first | exact hc | (rw [hv] at hvj; cases hvj)
    ·exact hs j (by simp at hj; omega) hvj
   refine Weak.list ?_ ?_; (all_goals simp (disch := omega) only [AllF, AllL, x11, j11, z11, exists_eq_left', go_sem, seval, hd, cb, hv, hc]); (all_goals (repeat' (with_reducible apply And.intro))); (all_goals try (first | exact q9 rfl | (refine q12 ?_; omega) | (refine q9 ?_; simp; done)))
   ·exact ⟨rfl, rfl, fun j hj => q70 k _ i j hn hj (by simp [chI, hv, hc])⟩
  ·(repeat refine j0 ?_); refine j14 rfl (fun _ => ?_) (fun ht => absurd ht (by decide))
   (repeat refine j0 ?_); (first | refine j4 fun K hK => ?_ | refine x5 fun K hK => ?_); (first | refine z10 [] _ _ ?_ | refine x10 [] _ _ _ ?_); simp (disch := omega) only [go_sem, seval, hd, cb, hv, hc]; (repeat refine ⟨by omega, ?_⟩); (first | (refine x4 (hK _ ?_); clear hK K; show AWP _ _ _ _ _) | (refine x6 (hK _ _ j5 ?_); clear hK K; show AWP _ _ _ _ _))
   have hf : k.sound = false := by
    cases hf : k.sound
    ·rfl
    ·have := (q19 k).1 hf i hn hv
     rw [hc] at this; cases this
   rw [hf]
   refine q10 ⟨_, ?_, rfl⟩; rw [Tryz.results24]; simp (disch := omega) only [ResVars, ResVar, ptrLoc, go_sem, seval, hd, cb, hv, hc]
   try rfl
  ·(repeat refine j0 ?_); refine j14 rfl (fun ht => absurd ht (by decide)) (fun _ => ?_); refine j6 ?_; show AWP _ _ _ _ _
   (repeat refine j0 ?_); (first | refine j4 fun K hK => ?_ | refine x5 fun K hK => ?_); (first | refine z10 [] _ _ ?_ | refine x10 [] _ _ _ ?_); simp (disch := omega) only [go_sem, seval, hd, cb, hv, hc]; (repeat refine ⟨by omega, ?_⟩); (first | (refine x4 (hK _ ?_); clear hK K; show AWP _ _ _ _ _) | (refine x6 (hK _ _ j5 ?_); clear hK K; show AWP _ _ _ _ _))
   (repeat refine j0 ?_); (first | refine j4 fun K hK => ?_ | refine x5 fun K hK => ?_); (first | refine z10 [] _ _ ?_ | refine x10 [] _ _ _ ?_); simp (disch := omega) only [go_sem, seval, hd, cb, hv, hc]; (repeat refine ⟨by omega, ?_⟩); (first | (refine x4 (hK _ ?_); clear hK K; show AWP _ _ _ _ _) | (refine x6 (hK _ _ j5 ?_); clear hK K; show AWP _ _ _ _ _))
   (repeat refine j0 ?_); refine j14 rfl (fun _ => ?_) (fun ht => absurd ht (by decide))
   (repeat refine j0 ?_); (first | refine j4 fun K hK => ?_ | refine x5 fun K hK => ?_); (first | refine z10 [] _ _ ?_ | refine x10 [] _ _ _ ?_); simp (disch := omega) only [go_sem, seval, hd, cb, hv, hc]; (repeat refine ⟨by omega, ?_⟩); (first | (refine x4 (hK _ ?_); clear hK K; show AWP _ _ _ _ _) | (refine x6 (hK _ _ j5 ?_); clear hK K; show AWP _ _ _ _ _))
   (repeat refine j0 ?_); (first | refine j4 fun K hK => ?_ | refine x5 fun K hK => ?_); (first | refine z10 [] _ _ ?_ | refine x10 [] _ _ _ ?_); simp (disch := omega) only [go_sem, seval, hd, cb, hv, hc]; (repeat refine ⟨by omega, ?_⟩); (first | (refine x4 (hK _ ?_); clear hK K; show AWP _ _ _ _ _) | (refine x6 (hK _ _ j5 ?_); clear hK K; show AWP _ _ _ _ _))
   (repeat refine j0 ?_); refine j14 rfl (fun ht => absurd ht (by decide)) (fun _ => ?_); refine j6 ?_; show AWP _ _ _ _ _
   (repeat refine j0 ?_); (first | refine j4 fun K hK => ?_ | refine x5 fun K hK => ?_); (first | refine z10 [] _ _ ?_ | refine x10 [] _ _ _ ?_); simp (disch := omega) only [go_sem, seval, hd, cb, hv, hc]; (repeat refine ⟨by omega, ?_⟩); (first | (refine x4 (hK _ ?_); clear hK K; show AWP _ _ _ _ _) | (refine x6 (hK _ _ j5 ?_); clear hK K; show AWP _ _ _ _ _))
   (repeat refine j0 ?_); (first | refine j4 fun K hK => ?_ | refine x5 fun K hK => ?_)
   (first | refine z10 [] _ _ ?_ | refine x10 [] _ _ _ ?_); simp (disch := omega) only [go_sem, seval, hd, cb, hv, hc]; (repeat refine ⟨by omega, ?_⟩)
   (first | (refine x4 (hK _ ?_); clear hK K; show loopQ _ _ _ _ _ _) | (refine x6 (hK _ _ j5 ?_); clear hK K; show loopQ _ _ _ _ _ _))
   refine ⟨⟨⟨i + 1, by omega⟩, fun j hj hvj => ?_⟩, by simp only []; omega, ?_⟩
   ·by_cases e : j = i
    ·subst e; first | exact hc | (rw [hv] at hvj; cases hvj)
    ·exact hs j (by simp at hj; omega) hvj
   refine Weak.list ?_ ?_; (all_goals simp (disch := omega) only [AllF, AllL, x11, j11, z11, exists_eq_left', go_sem, seval, hd, cb, hv, hc]); (all_goals (repeat' (with_reducible apply And.intro))); (all_goals try (first | exact q9 rfl | (refine q12 ?_; omega) | (refine q9 ?_; simp; done)))
   ·exact ⟨rfl, rfl, fun j hj => q70 k _ i j hn hj (by simp [chI, hv, hc])⟩
 ·have h128 : i = 128 := by omega
  subst h128
  (repeat refine j0 ?_); (first | refine j4 fun K hK => ?_ | refine x5 fun K hK => ?_); (first | refine z10 [] _ _ ?_ | refine x10 [] _ _ _ ?_); simp (disch := omega) only [go_sem, seval, hd, cb]; (repeat refine ⟨by omega, ?_⟩); (first | (refine x4 (hK _ ?_); clear hK K; show AWP _ _ _ _ _) | (refine x6 (hK _ _ j5 ?_); clear hK K; show AWP _ _ _ _ _))
  refine j14 rfl (fun ht => absurd ht (by decide)) (fun _ => ?_)
  refine z7 ?_
  show AWP _ _ _ _ _
  (repeat refine j0 ?_); (first | refine j4 fun K hK => ?_ | refine x5 fun K hK => ?_); (first | refine z10 [] _ _ ?_ | refine x10 [] _ _ _ ?_); simp (disch := omega) only [go_sem, seval, hd, cb]; (repeat refine ⟨by omega, ?_⟩); (first | (refine x4 (hK _ ?_); clear hK K; show AWP _ _ _ _ _) | (refine x6 (hK _ _ j5 ?_); clear hK K; show AWP _ _ _ _ _))
  have hf : k.sound = true := (q19 k).2 fun j hj hv => hs j hj hv
  rw [hf]
  refine q10 ⟨_, ?_, rfl⟩; rw [Tryz.results24]; simp (disch := omega) only [ResVars, ResVar, ptrLoc, go_sem, seval, hd, cb]
  unfold txt
  congr 2
  first | done | exact List.map_congr_left fun j hj => by rw [if_pos (by omega)]
def hasI (k : Cube) (x : BitVec 128) (s : {i : Fin 129 // ∀ j, j < i.val → (k.c.getLsbD (127 - j) = true → k.v.getLsbD (127 - j) = x.getLsbD (127 - j))}) : ASt :=
 ⟨[(6, .p (.d (.v (.int .i64 (s.val.val : Int))))), (5, .loc 5 0), (0, .p (.d (.v (.string (txt k)))))],
  [(5, .arr 112 128 fun j => .v (.bool (x.getLsbD j)))]⟩
theorem x153 (k : Cube) : (txt k).size = 128 := by unfold txt; rw [strOfNums_size]; simp
theorem txt_at (k : Cube) (i : Nat) (hi : i < 128) : ((((txt k).data.toList.getD i 0).toNat : Nat) : Int) = chI k (127 - i) := by
 unfold txt
 rw [j81, strOfNums_data, List.getD_eq_getElem?_getD, List.getElem?_map, List.getElem?_map, List.getElem?_range hi]
 simp only [Option.map_some, Option.getD_some]
 unfold chI
 split
 ·split <;> decide
 ·decide
theorem z100 (k : Cube) (x : BitVec 128) : (x &&& k.c == k.v &&& k.c) = true ↔ ∀ i, i < 128 → k.c.getLsbD i = true → k.v.getLsbD i = x.getLsbD i := by
 rw [beq_iff_eq]
 constructor
 ·intro h i hlt hc
  have := congrArg (fun z => z.getLsbD i) h
  simp only [BitVec.getLsbD_and, hc, Bool.and_true] at this
  exact this.symm
 ·intro h
  apply BitVec.eq_of_getLsbD_eq
  intro i hlt
  rw [BitVec.getLsbD_and, BitVec.getLsbD_and]
  cases hc : k.c.getLsbD i
  ·simp
  ·rw [h i hlt hc]
def hasT (k : Cube) (x : BitVec 128) : Bool := x &&& k.c == k.v &&& k.c
theorem Hast_c (k : Cube) (x : BitVec 128) : ACalls Tryz.prog 46 [.d (.v (.string (txt k))), .agg (hd x)] (· = [.d (.v (.bool (hasT k x)))]) := by
 have sz := x153 k
 have at_ := txt_at k
 refine z12 Tryz.func46 rfl (by decide +kernel) (by rw [Tryz.ntmps46]; simp) ?_; rw [Tryz.ntmps46]; simp only [frOf]
 (repeat refine j0 ?_); (first | refine j4 fun K hK => ?_ | refine x5 fun K hK => ?_); (first | refine z10 [] _ _ ?_ | refine x10 [] _ _ _ ?_); simp (disch := omega) only [go_sem, ↓reduceIte, reduceCtorEq, Nat.reduceLT, Nat.reducePow, Nat.reduceLeDiff, Nat.reduceAdd, Nat.reduceMul, Nat.reduceSub, Nat.reduceEqDiff, Nat.reduceBEq, Int.reduceToNat, Int.reduceBEq, Int.reduceBNe, hd, cb]; (repeat refine ⟨by omega, ?_⟩); (first | (refine x4 (hK _ ?_); clear hK K; show AWP _ _ _ _ _) | (refine x6 (hK _ _ j5 ?_); clear hK K; show AWP _ _ _ _ _))
 (repeat refine j0 ?_); (first | refine j4 fun K hK => ?_ | refine x5 fun K hK => ?_)
 (first | refine z10 [] _ _ ?_ | refine x10 [] _ _ _ ?_); simp (disch := omega) only [go_sem, ↓reduceIte, reduceCtorEq, Nat.reduceLT, Nat.reducePow, Nat.reduceLeDiff, Nat.reduceAdd, Nat.reduceMul, Nat.reduceSub, Nat.reduceEqDiff, Nat.reduceBEq, Int.reduceToNat, Int.reduceBEq, Int.reduceBNe, hd, cb]; (repeat refine ⟨by omega, ?_⟩)
 (first | refine j10 rfl rfl rfl ?_ | refine q11 rfl rfl rfl ?_); simp (disch := omega) only [go_sem, ↓reduceIte, reduceCtorEq, Nat.reduceLT, Nat.reducePow, Nat.reduceLeDiff, Nat.reduceAdd, Nat.reduceMul, Nat.reduceSub, Nat.reduceEqDiff, Nat.reduceBEq, Int.reduceToNat, Int.reduceBEq, Int.reduceBNe, hd, cb]
 refine ⟨_, j69 x, ?_⟩
 (first | refine z10 [] _ _ ?_ | refine x10 [] _ _ _ ?_); simp (disch := omega) only [go_sem, ↓reduceIte, reduceCtorEq, Nat.reduceLT, Nat.reducePow, Nat.reduceLeDiff, Nat.reduceAdd, Nat.reduceMul, Nat.reduceSub, Nat.reduceEqDiff, Nat.reduceBEq, Int.reduceToNat, Int.reduceBEq, Int.reduceBNe, hd, cb]; (repeat refine ⟨by omega, ?_⟩)
 (first | (refine x4 (hK _ ?_); clear hK K; show AWP _ _ _ _ _) | (refine x6 (hK _ _ j5 ?_); clear hK K; show AWP _ _ _ _ _))
 (repeat refine j0 ?_); (first | refine j4 fun K hK => ?_ | refine x5 fun K hK => ?_); (first | refine z10 [] _ _ ?_ | refine x10 [] _ _ _ ?_); simp (disch := omega) only [go_sem, ↓reduceIte, reduceCtorEq, Nat.reduceLT, Nat.reducePow, Nat.reduceLeDiff, Nat.reduceAdd, Nat.reduceMul, Nat.reduceSub, Nat.reduceEqDiff, Nat.reduceBEq, Int.reduceToNat, Int.reduceBEq, Int.reduceBNe, hd, cb]; (repeat refine ⟨by omega, ?_⟩); (first | (refine x4 (hK _ ?_); clear hK K; show AWP _ _ _ _ _) | (refine x6 (hK _ _ j5 ?_); clear hK K; show AWP _ _ _ _ _))
 refine x7 (x13 (hasI k x) (fun s => 128 - s.val.val) ⟨⟨0, by omega⟩, fun j hj => by simp at hj⟩ ?_ (fun s => ?_))
 ·unfold hasI
  refine Weak.list ?_ ?_; (all_goals simp (disch := omega) only [AllF, AllL, x11, j11, z11, exists_eq_left', go_sem, ↓reduceIte, reduceCtorEq, Nat.reduceLT, Nat.reducePow, Nat.reduceLeDiff, Nat.reduceAdd, Nat.reduceMul, Nat.reduceSub, Nat.reduceEqDiff, Nat.reduceBEq, Int.reduceToNat, Int.reduceBEq, Int.reduceBNe, hd, cb]); (all_goals (repeat' (with_reducible apply And.intro))); (all_goals try (first | exact q9 rfl | (refine q12 ?_; omega) | (refine q9 ?_; simp; done)))
 obtain ⟨⟨i, hi9⟩, hs⟩ := s
 unfold hasI
 simp only [] at hs
 by_cases hn : i < 128
 ·have at_i := at_ i hn
  (repeat refine j0 ?_); (first | refine j4 fun K hK => ?_ | refine x5 fun K hK => ?_)
  (first | refine z10 [] _ _ ?_ | refine x10 [] _ _ _ ?_); simp (disch := omega) only [go_sem, ↓reduceIte, reduceCtorEq, Nat.reduceLT, Nat.reducePow, Nat.reduceLeDiff, Nat.reduceAdd, Nat.reduceMul, Nat.reduceSub, Nat.reduceEqDiff, Nat.reduceBEq, Int.reduceToNat, Int.reduceBEq, Int.reduceBNe, hd, cb, sz, at_i]; (repeat refine ⟨by omega, ?_⟩)
  (first | (refine x4 (hK _ ?_); clear hK K; show AWP _ _ _ _ _) | (refine x6 (hK _ _ j5 ?_); clear hK K; show AWP _ _ _ _ _))
  (repeat refine j0 ?_); refine j14 rfl (fun _ => ?_) (fun ht => absurd ht (by decide))
  refine j6 ?_; show AWP _ _ _ _ _
  refine j0 (x7 ?_)
  cases hv : k.v.getLsbD (127 - i) <;> cases hc : k.c.getLsbD (127 - i) <;> cases hx : x.getLsbD (127 - i)
  all_goals
   simp only [chI, hv, hc, if_true, if_false, Bool.false_eq_true] at at_i
   (repeat refine j0 ?_); (first | refine j4 fun K hK => ?_ | refine x5 fun K hK => ?_); (first | refine z10 [] _ _ ?_ | refine x10 [] _ _ _ ?_); simp (disch := omega) only [go_sem, ↓reduceIte, reduceCtorEq, Nat.reduceLT, Nat.reducePow, Nat.reduceLeDiff, Nat.reduceAdd, Nat.reduceMul, Nat.reduceSub, Nat.reduceEqDiff, Nat.reduceBEq, Int.reduceToNat, Int.reduceBEq, Int.reduceBNe, hd, cb, sz, at_i, hx]; (repeat refine ⟨by omega, ?_⟩); (first | (refine x4 (hK _ ?_); clear hK K; show AWP _ _ _ _ _) | (refine x6 (hK _ _ j5 ?_); clear hK K; show AWP _ _ _ _ _))
   first
    |(repeat refine j0 ?_); refine j14 rfl (fun _ => ?_) (fun ht => absurd ht (by decide))
     (repeat refine j0 ?_); (first | refine j4 fun K hK => ?_ | refine x5 fun K hK => ?_); (first | refine z10 [] _ _ ?_ | refine x10 [] _ _ _ ?_); simp (disch := omega) only [go_sem, ↓reduceIte, reduceCtorEq, Nat.reduceLT, Nat.reducePow, Nat.reduceLeDiff, Nat.reduceAdd, Nat.reduceMul, Nat.reduceSub, Nat.reduceEqDiff, Nat.reduceBEq, Int.reduceToNat, Int.reduceBEq, Int.reduceBNe, hd, cb, sz, at_i, hx]; (repeat refine ⟨by omega, ?_⟩); (first | (refine x4 (hK _ ?_); clear hK K; show AWP _ _ _ _ _) | (refine x6 (hK _ _ j5 ?_); clear hK K; show AWP _ _ _ _ _))
     have hf : hasT k x = false := by
      cases hf : hasT k x
      ·rfl
      ·have := (z100 k x).1 hf (127 - i) (by omega) hc
       rw [hv, hx] at this; cases this
     rw [hf]
     refine q10 ⟨_, ?_, rfl⟩; rw [Tryz.results46]; simp (disch := omega) only [ResVars, ResVar, ptrLoc, go_sem, ↓reduceIte, reduceCtorEq, Nat.reduceLT, Nat.reducePow, Nat.reduceLeDiff, Nat.reduceAdd, Nat.reduceMul, Nat.reduceSub, Nat.reduceEqDiff, Nat.reduceBEq, Int.reduceToNat, Int.reduceBEq, Int.reduceBNe, hd, cb, sz, at_i, hx]
    |(repeat refine j0 ?_); refine j14 rfl (fun ht => absurd ht (by decide)) (fun _ => ?_); refine j6 ?_; show AWP _ _ _ _ _
     (repeat refine j0 ?_); (first | refine j4 fun K hK => ?_ | refine x5 fun K hK => ?_)
     (first | refine z10 [] _ _ ?_ | refine x10 [] _ _ _ ?_); simp (disch := omega) only [go_sem, ↓reduceIte, reduceCtorEq, Nat.reduceLT, Nat.reducePow, Nat.reduceLeDiff, Nat.reduceAdd, Nat.reduceMul, Nat.reduceSub, Nat.reduceEqDiff, Nat.reduceBEq, Int.reduceToNat, Int.reduceBEq, Int.reduceBNe, hd, cb, sz, at_i, hx]; (repeat refine ⟨by omega, ?_⟩)
     (first | (refine x4 (hK _ ?_); clear hK K; show loopQ _ _ _ _ _ _) | (refine x6 (hK _ _ j5 ?_); clear hK K; show loopQ _ _ _ _ _ _))
     refine ⟨⟨⟨i + 1, by omega⟩, fun j hj hcj => ?_⟩, by simp only []; omega, ?_⟩
     ·by_cases e : j = i
      ·subst e; first | (rw [hv, hx]; done) | (rw [hc] at hcj; cases hcj)
      ·exact hs j (by simp at hj; omega) hcj
     refine Weak.list ?_ ?_; (all_goals simp (disch := omega) only [AllF, AllL, x11, j11, z11, exists_eq_left', go_sem, ↓reduceIte, reduceCtorEq, Nat.reduceLT, Nat.reducePow, Nat.reduceLeDiff, Nat.reduceAdd, Nat.reduceMul, Nat.reduceSub, Nat.reduceEqDiff, Nat.reduceBEq, Int.reduceToNat, Int.reduceBEq, Int.reduceBNe, hd, cb, sz, at_i, hx]); (all_goals (repeat' (with_reducible apply And.intro))); (all_goals try (first | exact q9 rfl | (refine q12 ?_; omega) | (refine q9 ?_; simp; done)))
 ·have h128 : i = 128 := by omega
  subst h128
  (repeat refine j0 ?_); (first | refine j4 fun K hK => ?_ | refine x5 fun K hK => ?_); (first | refine z10 [] _ _ ?_ | refine x10 [] _ _ _ ?_); simp (disch := omega) only [go_sem, ↓reduceIte, reduceCtorEq, Nat.reduceLT, Nat.reducePow, Nat.reduceLeDiff, Nat.reduceAdd, Nat.reduceMul, Nat.reduceSub, Nat.reduceEqDiff, Nat.reduceBEq, Int.reduceToNat, Int.reduceBEq, Int.reduceBNe, hd, cb, sz]; (repeat refine ⟨by omega, ?_⟩); (first | (refine x4 (hK _ ?_); clear hK K; show AWP _ _ _ _ _) | (refine x6 (hK _ _ j5 ?_); clear hK K; show AWP _ _ _ _ _))
  refine j14 rfl (fun ht => absurd ht (by decide)) (fun _ => ?_)
  refine z7 ?_
  show AWP _ _ _ _ _
  (repeat refine j0 ?_); (first | refine j4 fun K hK => ?_ | refine x5 fun K hK => ?_); (first | refine z10 [] _ _ ?_ | refine x10 [] _ _ _ ?_); simp (disch := omega) only [go_sem, ↓reduceIte, reduceCtorEq, Nat.reduceLT, Nat.reducePow, Nat.reduceLeDiff, Nat.reduceAdd, Nat.reduceMul, Nat.reduceSub, Nat.reduceEqDiff, Nat.reduceBEq, Int.reduceToNat, Int.reduceBEq, Int.reduceBNe, hd, cb, sz]; (repeat refine ⟨by omega, ?_⟩); (first | (refine x4 (hK _ ?_); clear hK K; show AWP _ _ _ _ _) | (refine x6 (hK _ _ j5 ?_); clear hK K; show AWP _ _ _ _ _))
  have hf : hasT k x = true := (z100 k x).2 fun j hj hc => by
   have := hs (127 - j) (by omega)
   rw [show 127 - (127 - j) = j from by omega] at this
   exact this hc
  rw [hf]
  refine q10 ⟨_, ?_, rfl⟩; rw [Tryz.results46]; simp (disch := omega) only [ResVars, ResVar, ptrLoc, go_sem, ↓reduceIte, reduceCtorEq, Nat.reduceLT, Nat.reducePow, Nat.reduceLeDiff, Nat.reduceAdd, Nat.reduceMul, Nat.reduceSub, Nat.reduceEqDiff, Nat.reduceBEq, Int.reduceToNat, Int.reduceBEq, Int.reduceBNe, hd, cb, sz]
theorem j56 (a b : Cube) : (apart a b == 0) = true ↔ ∀ i, i < 128 → a.c.getLsbD i = true → b.c.getLsbD i = true → a.v.getLsbD i = b.v.getLsbD i := by
 unfold apart
 rw [beq_iff_eq]
 constructor
 ·intro h i hlt ha hb
  have := congrArg (fun z => z.getLsbD i) h
  simp only [BitVec.getLsbD_and, BitVec.getLsbD_xor, ha, hb, Bool.and_self, Bool.and_true, BitVec.getLsbD_zero] at this
  simpa using this
 ·intro h
  apply BitVec.eq_of_getLsbD_eq
  intro i hlt
  have := h i hlt
  simp only [BitVec.getLsbD_and, BitVec.getLsbD_xor, BitVec.getLsbD_zero]
  cases ha : a.c.getLsbD i <;> cases hb : b.c.getLsbD i <;> simp
  simpa using this ha hb
def withinT (a b : Cube) : Bool := (b.c &&& ~~~a.c == 0) && (apart a b == 0)
theorem j153 (a b : Cube) : withinT a b = true ↔ ∀ i, i < 128 → b.c.getLsbD i = true → a.c.getLsbD i = true ∧ a.v.getLsbD i = b.v.getLsbD i := by
 unfold withinT
 rw [Bool.and_eq_true, j56, beq_iff_eq]
 constructor
 ·intro ⟨h, h2⟩ i hlt hb
  have := congrArg (fun z => z.getLsbD i) h
  have e : a.c.getLsbD i = true := by
   simp only [BitVec.getLsbD_and, BitVec.getLsbD_not, hb, hlt, decide_true, Bool.true_and, BitVec.getLsbD_zero] at this
   simpa using this
  exact ⟨e, h2 i hlt e hb⟩
 ·intro h
  refine ⟨?_, fun i hlt _ hb => (h i hlt hb).2⟩
  apply BitVec.eq_of_getLsbD_eq
  intro i hlt
  have := h i hlt
  simp only [BitVec.getLsbD_and, BitVec.getLsbD_not, hlt, decide_true, Bool.true_and, BitVec.getLsbD_zero]
  cases hb : b.c.getLsbD i
  ·simp
  ·rw [(this hb).1]; simp
theorem q57 (n j : Nat) (hn : n < 128) (hj : j < 128) : (ones 1 <<< n).getLsbD j = decide (j = n) := by
 rw [BitVec.getLsbD_shiftLeft, show ones 1 = 1#128 from rfl, BitVec.getLsbD_one]
 by_cases h : j = n
 ·subst h; simp [hj]
 ·by_cases h2 : j < n
  ·simp [h, h2]
  ·simp [h, h2]; omega
def plus (r b : Cube) (n : Nat) : Cube := ⟨r.v ||| (b.v &&& (ones 1 <<< n)), r.c ||| (ones 1 <<< n)⟩
def other (r b : Cube) (n : Nat) : Cube := ⟨(r.v ||| (b.v &&& (ones 1 <<< n))) ^^^ (ones 1 <<< n), r.c ||| (ones 1 <<< n)⟩
theorem q36 {r b : Cube} {n j : Nat} (hn : n < 128) (hj : j < 128) : (plus r b n).c.getLsbD j = (r.c.getLsbD j || decide (j = n)) := by
 simp only [plus, BitVec.getLsbD_or, q57 n j hn hj]
theorem j41 {r b : Cube} {n j : Nat} (hn : n < 128) (hj : j < 128) : (plus r b n).v.getLsbD j = (r.v.getLsbD j || (b.v.getLsbD j && decide (j = n))) := by
 simp only [plus, BitVec.getLsbD_or, BitVec.getLsbD_and, q57 n j hn hj]
theorem z57 {r b : Cube} {n j : Nat} (hn : n < 128) (hj : j < 128) : (other r b n).c.getLsbD j = (r.c.getLsbD j || decide (j = n)) := by
 simp only [other, BitVec.getLsbD_or, q57 n j hn hj]
theorem x57 {r b : Cube} {n j : Nat} (hn : n < 128) (hj : j < 128) : (other r b n).v.getLsbD j = ((r.v.getLsbD j || (b.v.getLsbD j && decide (j = n))) ^^ decide (j = n)) := by
 simp only [other, BitVec.getLsbD_xor, BitVec.getLsbD_or, BitVec.getLsbD_and, q57 n j hn hj]
theorem q154 (b : Cube) (more : BitVec 128) (n : Nat) (r : Cube) : lessGo b more (n + 1) r = if more.getLsbD n then other r b n :: lessGo b more n (plus r b n) else lessGo b more n r := rfl
theorem x100 {r b : Cube} {n : Nat} (hn : n < 128) (hr : r.sound = true) : (plus r b n).sound = true := by
 refine (q19 _).2 fun i hi hv => ?_
 rw [j41 hn hi] at hv
 rw [q36 hn hi]
 cases h : r.v.getLsbD i
 ·rw [h] at hv; simp at hv; simp [hv.2]
 ·rw [(q19 r).1 hr i hi h]; rfl
theorem z154 {r b : Cube} {n : Nat} (hn : n < 128) (hr : r.sound = true) : (other r b n).sound = true := by
 refine (q19 _).2 fun i hi hv => ?_
 rw [x57 hn hi] at hv
 rw [z57 hn hi]
 by_cases h : i = n
 ·simp [h]
 ·simp only [h, decide_false, Bool.and_false, Bool.or_false, Bool.xor_false] at hv ⊢
  exact (q19 r).1 hr i hi hv
theorem x154 (a b : Cube) (j : Nat) (hj : j < 128) (h : (b.c &&& ~~~a.c).getLsbD j = true) : a.c.getLsbD j = false := by
 rw [BitVec.getLsbD_and, BitVec.getLsbD_not, decide_eq_true hj, Bool.true_and] at h
 cases hc : a.c.getLsbD j
 ·rfl
 ·rw [hc] at h; simp at h
theorem j100 {a b : Cube} (ha : a.sound = true) (hb : b.sound = true) : withinC a b = true ↔ ∀ i, i < 128 → b.c.getLsbD i = true → a.c.getLsbD i = true ∧ a.v.getLsbD i = b.v.getLsbD i := by
 rw [← j153]; unfold withinC withinT; rw [ha, hb]; rfl
theorem x23 {k : Cube} (hk : k.sound = true) (h : BitVec 128) : hasC k h = true ↔ ∀ i, i < 128 → k.c.getLsbD i = true → h.getLsbD i = k.v.getLsbD i := by
 unfold hasC
 rw [hk, Bool.true_and, beq_iff_eq]
 constructor
 ·intro e i hi hc
  have := congrArg (fun z => z.getLsbD i) e
  simpa [hc] using this
 ·intro e
  apply BitVec.eq_of_getLsbD_eq
  intro i hi
  rw [BitVec.getLsbD_and]
  cases hc : k.c.getLsbD i
  ·cases hv : k.v.getLsbD i
   ·simp
   ·rw [(q19 k).1 hk i hi hv] at hc; cases hc
  ·rw [e i hi hc, Bool.and_true]
theorem z36 {x y : Bool} (h : x = true ↔ y = true) : x = y := by cases x <;> cases y <;> simp at h <;> rfl
theorem j154 {r b : Cube} {n : Nat} (hn : n < 128) (hr : r.sound = true) (hc : r.c.getLsbD n = false) (h : BitVec 128) : hasC (plus r b n) h = (hasC r h && (h.getLsbD n == b.v.getLsbD n)) := by
 have hv : r.v.getLsbD n = false := by
  cases hv : r.v.getLsbD n
  ·rfl
  ·rw [(q19 r).1 hr n hn hv] at hc; cases hc
 apply z36
 rw [Bool.and_eq_true, x23 (x100 hn hr), x23 hr, beq_iff_eq]
 constructor
 ·intro e
  refine ⟨fun i hi hci => ?_, ?_⟩
  ·have hne : i ≠ n := fun e => by subst e; rw [hc] at hci; cases hci
   rw [e i hi (by rw [q36 hn hi, hci]; rfl), j41 hn hi]
   simp [hne]
  ·rw [e n hn (by rw [q36 hn hn]; simp), j41 hn hn, hv]; simp
 ·rintro ⟨e1, e2⟩ i hi hci
  rw [j41 hn hi]
  by_cases hne : i = n
  ·subst hne; rw [hv]; simpa using e2
  ·rw [q36 hn hi] at hci
   simp only [hne, decide_false, Bool.or_false] at hci
   rw [e1 i hi hci]; simp [hne]
theorem q155 {r b : Cube} {n : Nat} (hn : n < 128) (hr : r.sound = true) (hc : r.c.getLsbD n = false) (h : BitVec 128) : hasC (other r b n) h = (hasC r h && !(h.getLsbD n == b.v.getLsbD n)) := by
 have hv : r.v.getLsbD n = false := by
  cases hv : r.v.getLsbD n
  ·rfl
  ·rw [(q19 r).1 hr n hn hv] at hc; cases hc
 apply z36
 rw [Bool.and_eq_true, x23 (z154 hn hr), x23 hr]
 constructor
 ·intro e
  refine ⟨fun i hi hci => ?_, ?_⟩
  ·have hne : i ≠ n := fun e => by subst e; rw [hc] at hci; cases hci
   rw [e i hi (by rw [z57 hn hi, hci]; rfl), x57 hn hi]
   simp [hne]
  ·rw [e n hn (by rw [z57 hn hn]; simp), x57 hn hn, hv]; cases b.v.getLsbD n <;> simp
 ·rintro ⟨e1, e2⟩ i hi hci
  rw [x57 hn hi]
  by_cases hne : i = n
  ·subst hne; rw [hv]; revert e2; cases h.getLsbD i <;> cases b.v.getLsbD i <;> simp
  ·rw [z57 hn hi] at hci
   simp only [hne, decide_false, Bool.or_false] at hci
   rw [e1 i hi hci]; simp [hne]
def lessEnd (b : Cube) (more : BitVec 128) : Nat → Cube → Cube
 | 0, r => r
 | n + 1, r => if more.getLsbD n then lessEnd b more n (plus r b n) else lessEnd b more n r
theorem j57 (b : Cube) (more : BitVec 128) : ∀ (n : Nat) (r : Cube), n ≤ 128 → ∀ j, j < 128 → (lessEnd b more n r).c.getLsbD j = (r.c.getLsbD j || (more.getLsbD j && decide (j < n))) ∧ (lessEnd b more n r).v.getLsbD j = (r.v.getLsbD j || (b.v.getLsbD j && (more.getLsbD j && decide (j < n))))
 | 0, r, _, j, hj => by simp [lessEnd]
 |n + 1, r, hn, j, hj => by
  unfold lessEnd
  split
  ·rename_i hm
   obtain ⟨h1, h2⟩ := j57 b more n (plus r b n) (by omega) j hj
   rw [h1, h2, q36 (by omega) hj, j41 (by omega) hj]
   by_cases e : j = n
   ·subst e; simp [hm]
   ·have : decide (j < n + 1) = decide (j < n) := decide_eq_decide.2 (by omega)
    rw [this]; simp [e]
  ·rename_i hm
   obtain ⟨h1, h2⟩ := j57 b more n r (by omega) j hj
   rw [h1, h2]
   by_cases e : j = n
   ·subst e; simp [hm]
   ·have : decide (j < n + 1) = decide (j < n) := decide_eq_decide.2 (by omega)
    rw [this]; simp
theorem q101 {x y : Cube} (hc : ∀ j, j < 128 → x.c.getLsbD j = y.c.getLsbD j) (hv : ∀ j, j < 128 → x.v.getLsbD j = y.v.getLsbD j) : x = y := by
 obtain ⟨a, b⟩ := x
 obtain ⟨c, d⟩ := y
 have h1 : a = c := BitVec.eq_of_getLsbD_eq hv
 have h2 : b = d := BitVec.eq_of_getLsbD_eq hc
 rw [h1, h2]
theorem z155 {a b : Cube} (h : meetO a b = true) : lessEnd b (b.c &&& ~~~a.c) 128 a = meetV a b := by
 have hm := h
 unfold meetO at h
 simp only [Bool.and_eq_true] at h
 obtain ⟨⟨ha, hb⟩, hap⟩ := h
 have hap := (j56 a b).1 hap
 have e : meetV a b = ⟨a.v ||| b.v, a.c ||| b.c⟩ := by unfold meetV; rw [hm]; rfl
 rw [e]
 refine q101 (fun j hj => ?_) (fun j hj => ?_)
 ·rw [(j57 b _ 128 a (Nat.le_refl _) j hj).1]
  simp only [BitVec.getLsbD_and, BitVec.getLsbD_or, BitVec.getLsbD_not, hj, decide_true, Bool.true_and, Bool.and_true]
  cases a.c.getLsbD j <;> cases b.c.getLsbD j <;> rfl
 ·rw [(j57 b _ 128 a (Nat.le_refl _) j hj).2]
  have h1 := (q19 a).1 ha j hj; have h2 := (q19 b).1 hb j hj; have h3 := hap j hj
  simp only [BitVec.getLsbD_and, BitVec.getLsbD_or, BitVec.getLsbD_not, hj, decide_true, Bool.true_and, Bool.and_true]
  revert h1 h2 h3
  cases a.c.getLsbD j <;> cases b.c.getLsbD j <;> cases a.v.getLsbD j <;> cases b.v.getLsbD j <;> simp
def cnt (x : Bool) : Nat := if x then 1 else 0
theorem z70 (b : Cube) (more : BitVec 128) (h : BitVec 128) : ∀ (n : Nat) (r : Cube), n ≤ 128 → r.sound = true → (∀ j, j < n → more.getLsbD j = true → r.c.getLsbD j = false) →
  (lessGo b more n r).countP (hasC · h) + cnt (hasC (lessEnd b more n r) h) = cnt (hasC r h)
 | 0, r, _, _, _ => by simp [lessGo, lessEnd]
 |n + 1, r, hn, hr, hm => by
  rw [q154]
  unfold lessEnd
  split
  ·rename_i hmn
   have hc := hm n (by omega) hmn
   have ih := z70 b more h n (plus r b n) (by omega) (x100 (by omega) hr) (fun j hj hmj => by rw [q36 (by omega) (by omega), hm j (by omega) hmj]; simp; omega)
   rw [List.countP_cons]
   rw [j154 (by omega) hr hc] at ih
   simp only [q155 (show n < 128 by omega) hr hc]
   generalize cnt (hasC (lessEnd b more n (plus r b n)) h) = e at ih ⊢
   generalize List.countP (hasC · h) (lessGo b more n (plus r b n)) = c at ih ⊢
   revert ih
   cases hasC r h <;> cases (h.getLsbD n == b.v.getLsbD n) <;> simp [cnt] <;> omega
  ·exact z70 b more h n r (by omega) hr (fun j hj => hm j (by omega))
theorem x155 {a b : Cube} (ha : a.sound = true) (hb : b.sound = true) (h : BitVec 128) : cnt (meetO a b && hasC (meetV a b) h) + (lessL a b).countP (hasC · h) = cnt (hasC a h) := by
 unfold lessL
 rw [ha, hb]
 cases hm : meetO a b
 ·simp [cnt, List.countP_cons]
 ·have := z70 b (b.c &&& ~~~a.c) h 128 a (Nat.le_refl _) ha (fun j hj hh => x154 a b j hj hh)
  rw [z155 hm] at this
  simp only [Bool.and_self, if_true, Bool.true_and]
  omega
theorem j155 {k : Cube} (hk : k.sound = true) (h : BitVec 128) : hasT k h = hasC k h := by
 have a : k.v &&& k.c = k.v := by
  have := (q19 k).1 hk
  apply BitVec.eq_of_getLsbD_eq
  intro i hlt
  rw [BitVec.getLsbD_and]
  cases hv : k.v.getLsbD i
  ·rfl
  ·rw [this i hlt hv]; rfl
 unfold hasT hasC
 rw [hk, a, Bool.true_and]
def leanR : List Cube → List Cube → List Cube
 | _, [] => []
 | pre, x :: s => if x.sound && !(pre.any (withinC x)) && !(s.any fun y => withinC x y && x != y) then x :: leanR (pre ++ [x]) s else leanR (pre ++ [x]) s
theorem z101 (pre s : List Cube) (x : Cube) : leanR pre (x :: s) = if x.sound && !(pre.any (withinC x)) && !(s.any fun y => withinC x y && x != y) then x :: leanR (pre ++ [x]) s else leanR (pre ++ [x]) s := rfl
theorem q156 {α : Type} (l : List α) (z : α) : (List.range l.length).map (fun i => l.getD i z) = l := by
 apply List.ext_getElem
 ·simp
 ·intro i h1 h2
  simp at h1
  simp [h1]
theorem x101 {α : Type} (P : α → Bool) (l : List α) (z : α) : (List.range l.length).any (fun i => P (l.getD i z)) = l.any P := by
 have := congrArg (List.any · P) (q156 l z)
 simp only [List.any_map] at this
 exact this
theorem x70 {α : Type} {p q : α → Bool} {l : List α} (h : ∀ x ∈ l, p x = q x) : l.any p = l.any q := by
 induction l with
 | nil => rfl
 | cons x l ih => rw [List.any_cons, List.any_cons, h x (by simp), ih fun y hy => h y (by simp [hy])]
theorem z156 (pre s : List Cube) (x : Cube) : spareP (pre ++ x :: s) pre.length = (pre.any (withinC x) || (s.any (fun y => withinC x y && x != y)) || !x.sound) := by
 unfold spareP
 have e0 : (pre ++ x :: s).getD pre.length ⟨0, 0⟩ = x := by simp
 rw [e0]
 congr 1
 have hl : (pre ++ x :: s).length = pre.length + (1 + s.length) := by simp; omega
 rw [hl, List.range_add, List.any_append, List.range_add, List.map_append, List.any_append, List.any_map, List.any_map, List.any_map]
 have e1 : (List.range pre.length).any (spareBy (pre ++ x :: s) pre.length) = pre.any (withinC x) := by
  rw [← x101 (withinC x) pre ⟨0, 0⟩]
  refine x70 fun i hi => ?_
  have hi := List.mem_range.1 hi
  unfold spareBy
  have eg : (pre ++ x :: s).getD i ⟨0, 0⟩ = pre.getD i ⟨0, 0⟩ := by rw [List.getD_eq_getElem?_getD, List.getD_eq_getElem?_getD, List.getElem?_append_left hi]
  rw [e0, eg]
  have : (i != pre.length) = true := by simp; omega
  rw [this, decide_eq_true hi, Bool.or_true, Bool.and_true, Bool.true_and]
 have e2 : (List.range 1).any (spareBy (pre ++ x :: s) pre.length ∘ fun y => pre.length + y) = false := by
  simp [spareBy, List.range_succ]
 have e3 : (List.range s.length).any ((spareBy (pre ++ x :: s) pre.length ∘ fun y => pre.length + y) ∘ fun y => 1 + y) = s.any (fun y => withinC x y && x != y) := by
  rw [← x101 (fun y => withinC x y && x != y) s ⟨0, 0⟩]
  refine x70 fun i hi => ?_
  have hi := List.mem_range.1 hi
  simp only [Function.comp]
  unfold spareBy
  have eg : (pre ++ x :: s).getD (pre.length + (1 + i)) ⟨0, 0⟩ = s.getD i ⟨0, 0⟩ := by rw [List.getD_eq_getElem?_getD, List.getD_eq_getElem?_getD, List.getElem?_append_right (by omega), show pre.length + (1 + i) - pre.length = i + 1 from by omega, List.getElem?_cons_succ]
  rw [e0, eg]
  have : (pre.length + (1 + i) != pre.length) = true := by simp
  rw [this, decide_eq_false (show ¬ pre.length + (1 + i) < pre.length by omega), Bool.or_false, Bool.true_and]
 rw [e1, e2, e3, Bool.false_or]
theorem x156 (s : List Cube) : ∀ pre, (List.range' pre.length s.length).filterMap (fun n => if spareP (pre ++ s) n then none else some ((pre ++ s).getD n ⟨0, 0⟩)) = leanR pre s := by
 induction s with
 | nil => intro pre; rfl
 |cons x s ih =>
  intro pre
  have ih := ih (pre ++ [x])
  have e : pre ++ [x] ++ s = pre ++ x :: s := by simp
  rw [e, show (pre ++ [x]).length = pre.length + 1 from by simp] at ih
  rw [List.length_cons, List.range'_succ, List.filterMap_cons, ih, z156]
  have e0 : (pre ++ x :: s).getD pre.length ⟨0, 0⟩ = x := by simp
  rw [z101, e0]
  cases x.sound <;> cases pre.any (withinC x) <;> cases s.any (fun y => withinC x y && x != y) <;> rfl
theorem j156 (l : List Cube) : leanP l = leanR [] l := by
 have := x156 l []
 rw [← this]
 unfold leanP leanTo
 rw [List.range_eq_range']
 rfl
theorem j101 {x y : Cube} (h : withinC x y = true) : y.sound = true := by
 unfold withinC at h
 simp only [Bool.and_eq_true] at h
 exact h.1.1.2
theorem j70 : ∀ (s pre : List Cube), ∀ k ∈ leanR pre s, k ∈ s ∧ k.sound = true
 | [], pre, k, h => by simp [leanR] at h
 |x :: s, pre, k, h => by
  rw [z101] at h
  split at h
  ·rename_i hc
   rcases List.mem_cons.1 h with rfl | h
   ·simp only [Bool.and_eq_true] at hc; exact ⟨by simp, hc.1.1⟩
   ·obtain ⟨h1, h2⟩ := j70 s _ k h; exact ⟨by simp [h1], h2⟩
  ·obtain ⟨h1, h2⟩ := j70 s _ k h; exact ⟨by simp [h1], h2⟩
theorem q102 {l : List Cube} {k : Cube} (h : k ∈ leanP l) : k ∈ l ∧ k.sound = true := by
 rw [j156] at h; exact j70 l [] k h
theorem q42 {k : Cube} {h : BitVec 128} (e : hasC k h = true) : k.sound = true := by unfold hasC at e; rw [Bool.and_eq_true] at e; exact e.1
theorem q157 {x y : Cube} {h : BitVec 128} (w : withinC x y = true) (hx : hasC x h = true) : hasC y h = true := by
 have sx := q42 hx
 have sy := j101 w
 refine (x23 sy h).2 fun i hi hc => ?_
 obtain ⟨h1, h2⟩ := (j100 sx sy).1 w i hi hc
 rw [← h2]; exact (x23 sx h).1 hx i hi h1
theorem z157 {x y : Cube} (w : withinC x y = true) (hx : x.sound = true) : y.c.toNat ≤ x.c.toNat ∧ (y.c.toNat = x.c.toNat → x = y) := by
 have sy := j101 w
 have wi := (j100 hx sy).1 w
 have e : y.c = y.c &&& x.c := by
  apply BitVec.eq_of_getLsbD_eq
  intro i hi
  rw [BitVec.getLsbD_and]
  cases hc : y.c.getLsbD i
  ·rfl
  ·rw [(wi i hi hc).1]; rfl
 refine ⟨?_, fun q => ?_⟩
 ·rw [e, BitVec.toNat_and]; exact Nat.and_le_right
 ·have hc : x.c = y.c := (BitVec.eq_of_toNat_eq q).symm
  refine q101 (fun j _ => by rw [hc]) (fun j hj => ?_)
  cases hcj : y.c.getLsbD j
  ·have a := (q19 x).1 hx j hj
   have b := (q19 y).1 sy j hj
   rw [hc, hcj] at a
   rw [hcj] at b
   cases hv : x.v.getLsbD j
   ·cases hv2 : y.v.getLsbD j
    ·rfl
    ·exact absurd (b hv2) (by decide)
   ·exact absurd (a hv) (by decide)
  ·exact (wi j hj hcj).2
theorem z102 {α : Type} (p : α → Bool) (m : α → Nat) (z : α) : ∀ (l : List α), l.any p = true → ∃ n, n < l.length ∧ p (l.getD n z) = true ∧ ∀ i, i < l.length → p (l.getD i z) = true → m (l.getD n z) ≤ m (l.getD i z) ∧ (i < n → m (l.getD n z) < m (l.getD i z))
 | [], h => by simp at h
 |x :: l, h => by
  by_cases hl : l.any p = true
  ·obtain ⟨n, hn, hp, hm⟩ := z102 p m z l hl
   by_cases hx : p x = true ∧ m x ≤ m (l.getD n z)
   ·refine ⟨0, by simp, by simpa using hx.1, fun i hi hpi => ⟨?_, by omega⟩⟩
    cases i with
    | zero => exact Nat.le_refl _
    |succ i =>
     rw [List.getD_cons_succ] at hpi
     rw [List.getD_cons_zero, List.getD_cons_succ]
     exact Nat.le_trans hx.2 (hm i (by simpa using hi) hpi).1
   ·refine ⟨n + 1, by simpa using hn, by simpa using hp, fun i hi hpi => ?_⟩
    rw [List.getD_cons_succ]
    cases i with
    |zero =>
     rw [List.getD_cons_zero] at hpi ⊢
     have : m (l.getD n z) < m x := Nat.lt_of_not_le fun hle => hx ⟨hpi, hle⟩
     exact ⟨Nat.le_of_lt this, fun _ => this⟩
    |succ i =>
     rw [List.getD_cons_succ] at hpi ⊢
     have := hm i (by simpa using hi) hpi
     exact ⟨this.1, fun h => this.2 (by omega)⟩
  ·have hx : p x = true := by simpa [hl] using h
   refine ⟨0, by simp, by simpa using hx, fun i hi hpi => ⟨?_, by omega⟩⟩
   cases i with
   | zero => exact Nat.le_refl _
   |succ i =>
    rw [List.getD_cons_succ] at hpi
    exact absurd (List.any_eq_true.2 ⟨l.getD i z, z24 (by simpa using hi) z, hpi⟩) hl
theorem x157 {l : List Cube} {n : Nat} (hn : n < l.length) (hs : spareP l n = false) : l.getD n ⟨0, 0⟩ ∈ leanP l := by
 unfold leanP leanTo
 exact List.mem_filterMap.2 ⟨n, List.mem_range.2 hn, by rw [hs]; rfl⟩
theorem x102 (l : List Cube) (h : BitVec 128) : hasP (leanP l) h = hasP l h := by
 apply z36
 unfold hasP
 constructor
 ·intro e
  obtain ⟨k, hk, hh⟩ := List.any_eq_true.1 e
  exact List.any_eq_true.2 ⟨k, (q102 hk).1, hh⟩
 ·intro e
  obtain ⟨n, hn, hp, hm⟩ := z102 (hasC · h) (fun k => k.c.toNat) ⟨0, 0⟩ l e
  refine List.any_eq_true.2 ⟨_, x157 hn ?_, hp⟩
  have sx := q42 hp
  cases hs : spareP l n
  ·rfl
  unfold spareP at hs
  rw [sx, Bool.not_true, Bool.or_false] at hs
  obtain ⟨i, hi, hb⟩ := List.any_eq_true.1 hs
  have hi := List.mem_range.1 hi
  unfold spareBy at hb
  simp only [Bool.and_eq_true, Bool.or_eq_true, bne_iff_ne, ne_eq, decide_eq_true_eq] at hb
  obtain ⟨hne, hw, ho⟩ := hb
  have hh := q157 hw hp
  obtain ⟨h1, h2⟩ := z157 hw sx
  obtain ⟨h3, h4⟩ := hm i hi hh
  have q := h2 (by omega)
  rcases ho with ho | ho
  ·exact absurd q ho
  ·have := h4 ho
   rw [q] at this
   omega
theorem q71 (x y : Cube) (h : BitVec 128) : (meetO x y && hasC (meetV x y) h) = (hasC x h && hasC y h) := by
 apply z36
 rw [Bool.and_eq_true, Bool.and_eq_true]
 constructor
 ·rintro ⟨hm, hh⟩
  have hm' := hm
  unfold meetO at hm'
  simp only [Bool.and_eq_true] at hm'
  obtain ⟨⟨sx, sy⟩, ha⟩ := hm'
  have ha := (j56 x y).1 ha
  have sm := q42 hh
  have hh := (x23 sm h).1 hh
  have e : meetV x y = ⟨x.v ||| y.v, x.c ||| y.c⟩ := by unfold meetV; rw [hm]; rfl
  rw [e] at hh
  simp only [BitVec.getLsbD_or, Bool.or_eq_true] at hh
  constructor
  ·refine (x23 sx h).2 fun i hi hc => ?_
   rw [hh i hi (.inl hc)]
   cases hy : y.v.getLsbD i
   ·simp
   ·have hcy := (q19 y).1 sy i hi hy
    rw [ha i hi hc hcy, hy]; rfl
  ·refine (x23 sy h).2 fun i hi hc => ?_
   rw [hh i hi (.inr hc)]
   cases hx : x.v.getLsbD i
   ·simp
   ·have hcx := (q19 x).1 sx i hi hx
    rw [← ha i hi hcx hc, hx]; rfl
 ·rintro ⟨hx, hy⟩
  have sx := q42 hx
  have sy := q42 hy
  have ex := (x23 sx h).1 hx
  have ey := (x23 sy h).1 hy
  have hm : meetO x y = true := by
   unfold meetO
   rw [sx, sy, Bool.true_and, Bool.true_and]
   exact (j56 x y).2 fun i hi h1 h2 => by rw [← ex i hi h1, ← ey i hi h2]
  refine ⟨hm, ?_⟩
  have e : meetV x y = ⟨x.v ||| y.v, x.c ||| y.c⟩ := by unfold meetV; rw [hm]; rfl
  have sm : (meetV x y).sound = true := by
   rw [e]
   refine (q19 _).2 fun i hi hv => ?_
   simp only [BitVec.getLsbD_or, Bool.or_eq_true] at hv ⊢
   rcases hv with hv | hv
   ·exact .inl ((q19 x).1 sx i hi hv)
   ·exact .inr ((q19 y).1 sy i hi hv)
  refine (x23 sm h).2 fun i hi hc => ?_
  rw [e] at hc ⊢
  simp only [BitVec.getLsbD_or, Bool.or_eq_true] at hc ⊢
  have z : ∀ (k : Cube), k.sound = true → k.c.getLsbD i = false → k.v.getLsbD i = false := by
   intro k sk hc
   cases hv : k.v.getLsbD i
   ·rfl
   ·rw [(q19 k).1 sk i hi hv] at hc; cases hc
  cases hcx : x.c.getLsbD i
  ·rw [hcx] at hc
   simp only [Bool.false_eq_true, false_or] at hc
   rw [z x sx hcx, ey i hi hc]; simp
  ·cases hcy : y.c.getLsbD i
   ·rw [z y sy hcy, ex i hi hcx]; simp
   ·rw [← ex i hi hcx, ← ey i hi hcy]; simp
theorem j157 (a b : List Cube) (h : BitVec 128) : hasP (meetsP a b) h = (hasP a h && hasP b h) := by
 apply z36
 unfold hasP meetsP meetRow
 rw [Bool.and_eq_true]
 constructor
 ·intro e
  obtain ⟨k, hk, hh⟩ := List.any_eq_true.1 e
  obtain ⟨x, hx, hk⟩ := List.mem_flatMap.1 hk
  obtain ⟨y, hy, hk⟩ := List.mem_filterMap.1 hk
  unfold meetOne at hk
  split at hk
  ·rename_i hm
   have hk := Option.some.inj hk
   have mh := q71 x y h
   rw [hm, hk, hh] at mh
   have mh := mh.symm
   rw [Bool.and_self, Bool.and_eq_true] at mh
   exact ⟨List.any_eq_true.2 ⟨x, hx, mh.1⟩, List.any_eq_true.2 ⟨y, hy, mh.2⟩⟩
  ·cases hk
 ·rintro ⟨e1, e2⟩
  obtain ⟨x, hx, h1⟩ := List.any_eq_true.1 e1
  obtain ⟨y, hy, h2⟩ := List.any_eq_true.1 e2
  have mh := q71 x y h
  rw [h1, h2, Bool.and_self, Bool.and_eq_true] at mh
  refine List.any_eq_true.2 ⟨meetV x y, List.mem_flatMap.2 ⟨x, hx, List.mem_filterMap.2 ⟨y, hy, ?_⟩⟩, mh.2⟩
  unfold meetOne; rw [mh.1]; rfl
theorem q158 {α : Type} (p : α → Bool) (l : List α) : l.any p = decide (l.countP p ≠ 0) := by
 apply z36
 rw [List.any_eq_true, decide_eq_true_eq, ← List.countP_pos_iff]
 omega
theorem z158 {x y : Cube} (hx : x.sound = true) (hy : y.sound = true) (h : BitVec 128) : (lessL x y).any (hasC · h) = (hasC x h && !hasC y h) := by
 have pc := x155 hx hy h
 rw [q71] at pc
 rw [q158]
 generalize (lessL x y).countP (hasC · h) = c at pc ⊢
 revert pc
 cases hasC x h <;> cases hasC y h <;> simp [cnt] <;> omega
theorem x158 {out : List Cube} {y : Cube} (hs : ∀ k ∈ out, k.sound = true) (hy : y.sound = true) (h : BitVec 128) : hasP (lessRest out y) h = (hasP out h && !hasC y h) := by
 unfold hasP lessRest
 rw [List.any_flatMap]
 have : ∀ x ∈ out, ((lessL x y).any (hasC · h)) = (hasC x h && !hasC y h) := fun x hx => z158 (hs x hx) hy h
 rw [x70 this]
 induction out with
 | nil => rfl
 |cons x out ih =>
  rw [List.any_cons, List.any_cons, ih (fun k hk => hs k (by simp [hk])) (fun k hk => this k (by simp [hk]))]
  cases hasC x h <;> cases hasC y h <;> simp
theorem z71 (l : List Cube) (h : leanE l = 0) : leanV l = leanP l := by
 unfold leanE at h
 unfold leanV
 split at h
 ·cases h
 ·rename_i h2; rw [if_neg h2]
theorem j158 (l : List Cube) : leanE l = 0 ∨ leanE l = 10 ∧ leanV l = [] := by
 unfold leanE leanV
 split
 ·exact .inr ⟨rfl, rfl⟩
 ·exact .inl rfl
theorem q58 (h : BitVec 128) : ∀ (b out : List Cube), (∀ k ∈ b, k.sound = true) → (∀ k ∈ out, k.sound = true) → (lessP b out).2 = 0 → (hasP (lessP b out).1 h = (hasP out h && !hasP b h) ∧ ∀ k ∈ (lessP b out).1, k.sound = true)
 | [], out, _, hs, _ => by unfold lessP; exact ⟨by simp [hasP], hs⟩
 |y :: r, out, hb, hs, he => by
  unfold lessP at he ⊢
  split
  ·rename_i h0
   rw [if_pos h0] at he
   have sv : ∀ k ∈ leanV (lessRest out y), k.sound = true := by
    rw [z71 _ h0]
    exact fun k hk => (q102 hk).2
   obtain ⟨h1, h2⟩ := q58 h r _ (fun k hk => hb k (by simp [hk])) sv he
   refine ⟨?_, h2⟩
   rw [h1, z71 _ h0, x102, x158 hs (hb y (by simp))]
   unfold hasP
   rw [List.any_cons]
   cases hasC y h <;> simp
  ·rename_i h0
   rw [if_neg h0] at he
   exact absurd he h0
def meetPV (a b : List Cube) : List Cube := if soundP a && soundP b then leanV (meetsP a b) else []
def meetPE (a b : List Cube) : Int := if soundP a && soundP b then leanE (meetsP a b) else 2
theorem z42 : ∀ (b out : List Cube), out.length ≤ 200 → (lessP b out).1.length ≤ 200
 | [], out, h => h
 |y :: r, out, h => by
  unfold lessP
  split
  ·exact z42 r _ (j99 _)
  ·simp
theorem j102 : ∀ (b a : List Cube), (lessP b a).2 = 0 ∨ (lessP b a).2 = 10 ∧ (lessP b a).1 = [] := q100
def woGo (l : List Rule) : List Nat → List Cube → List Cube × Int
 | [], p => (p, 0)
 | n :: r, p => if (lessP [(l.getD n r0).mt] p).2 = 0 then woGo l r (lessP [(l.getD n r0).mt] p).1 else ([], (lessP [(l.getD n r0).mt] p).2)
def withoutR (l : List Rule) (ids : List Nat) (p : List Cube) : List Cube × Int := if soundL l then woGo l ids p else ([], 2)
theorem z29 {l : List Rule} (h : soundL l = true) {n : Nat} (hn : n < l.length) : (l.getD n r0).mt.sound = true := by
 unfold soundL at h
 rw [List.all_eq_true] at h
 exact h _ (z24 hn r0)
theorem q159 {p : List Cube} {c : Cube} (hp : ∀ k ∈ p, k.sound = true) (hl : p.length ≤ 200) (hc : c.sound = true) : lessPR p [c] = lessP [c] p := by
 unfold lessPR
 have h1 : soundP p = true := by
  unfold soundP; rw [Bool.and_eq_true, List.all_eq_true]; exact ⟨by simpa using hl, hp⟩
 have h2 : soundP [c] = true := by unfold soundP; simp [hc]
 rw [h1, h2]; rfl
theorem q103 (p : List Cube) (c : Cube) (hp : ∀ k ∈ p, k.sound = true) (hl : p.length ≤ 200) (hc : c.sound = true) : ACalls Tryz.prog 68 [.d (.sl 4 p.length (rowC p)), .d (.sl 4 1 fun i => [cb c].getD i [])]
  (· = [.d (.sl 4 (lessP [c] p).1.length (rowC (lessP [c] p).1)), .d (.v (.int .i64 (lessP [c] p).2))]) := by
 have k := LessP_c p [c] (by omega) (by simp)
 rw [q159 hp hl hc] at k
 refine j39 (.cons (z54 _) (.cons (q35 rfl fun i hi => ?_) .nil)) k
 have : i = 0 := by simp at hi; exact hi
 subst this; rfl
theorem z58 {p : List Cube} {c : Cube} (hp : ∀ k ∈ p, k.sound = true) (hc : c.sound = true) (h : (lessP [c] p).2 = 0) : ∀ k ∈ (lessP [c] p).1, k.sound = true :=
 (q58 0 [c] p (by simp [hc]) hp h).2
def woI (l : List Rule) (ids : List Nat) (R : List Cube × Int) (s : {s : Nat × List Cube // s.1 ≤ ids.length ∧ s.2.length ≤ 200 ∧ (∀ k ∈ s.2, k.sound = true) ∧ woGo l (ids.drop s.1) s.2 = R}) : ASt :=
 ⟨[(16, .p (.d (.v (.int .i64 (s.val.1 : Int))))), (15, .p (.d (.v (.int .i64 (ids.length : Int))))), (14, .p (.d (.sl 1 ids.length (rowI ids)))), (2, .p (.d (.sl 4 s.val.2.length (rowC s.val.2)))), (0, .p (.d (.sl 12 l.length (rowR l))))], []⟩
set_option maxRecDepth 100000 in
set_option maxHeartbeats 4000000 in
theorem z159 (l : List Rule) (ids : List Nat) (p : List Cube) (hl : l.length ≤ 1099511627776) (hi : ∀ n ∈ ids, n < l.length) (hil : ids.length ≤ 1099511627776) (hp : p.length ≤ 200) (hps : soundL l = true → ∀ k ∈ p, k.sound = true) :
  ACalls Tryz.prog 100 [.d (.sl 12 l.length (rowR l)), .d (.sl 1 ids.length (rowI ids)), .d (.sl 4 p.length (rowC p))] (· = [.d (.sl 4 (withoutR l ids p).1.length (rowC (withoutR l ids p).1)), .d (.v (.int .i64 (withoutR l ids p).2))]) := by
 have ks := z153 l hl
 unfold withoutR
 cases hs : soundL l
 ·rw [hs] at ks
  simp only [Bool.false_eq_true, if_false]
  refine z12 Tryz.func100 rfl (by decide +kernel) (by rw [Tryz.ntmps100]; simp) ?_; rw [Tryz.ntmps100]; simp only [frOf]
  (repeat (first | apply j0 | refine q8 rfl ?_ | refine z8 rfl ?_ | apply x7 | (refine j4 fun K hK => ?_) | (refine x5 fun K hK => ?_) | ((first | apply j6 | apply z7 | ((first | refine x4 (hK _ ?_) | refine x6 (hK _ _ j5 ?_)); clear hK K)); (first | show AWP _ _ _ _ _ | ((try simp only [j7]); first | show loopQ _ _ _ _ _ _ | show cutQ _ _ _ _ | show AWP _ _ _ _ _))) | ((first | refine j10 rfl rfl rfl ?_ | refine q11 rfl rfl rfl ?_); simp (disch := omega) only [go_sem, seval, hd, cb, ruleD]; (first | refine ⟨_, ks, ?_⟩)) | ((first | refine x8 [] rfl ?_ | refine j8 [] rfl ?_); simp (disch := omega) only [go_sem, seval, hd, cb, ruleD]; (repeat (first | refine ⟨by omega, ?_⟩ | refine ⟨True.intro, ?_⟩)))))
  refine q16 6 _ (.p (.d (.sl 4 0 (rowC [])))) rfl (z25 _ _ _ rfl) ?_
  refine q10 ⟨_, ?_, rfl⟩; rw [Tryz.results100]; simp (disch := omega) only [ResVars, ResVar, ptrLoc, go_sem, seval, hd, cb, ruleD]
 ·rw [hs] at ks
  simp only [if_true]
  obtain ⟨R, hR⟩ : ∃ R, woGo l ids p = R := ⟨_, rfl⟩
  rw [hR]
  refine z12 Tryz.func100 rfl (by decide +kernel) (by rw [Tryz.ntmps100]; simp) ?_; rw [Tryz.ntmps100]; simp only [frOf]
  (repeat (first | apply j0 | refine q8 rfl ?_ | refine z8 rfl ?_ | apply x7 | (refine j4 fun K hK => ?_) | (refine x5 fun K hK => ?_) | ((first | apply j6 | apply z7 | ((first | refine x4 (hK _ ?_) | refine x6 (hK _ _ j5 ?_)); clear hK K)); (first | show AWP _ _ _ _ _ | ((try simp only [j7]); first | show loopQ _ _ _ _ _ _ | show cutQ _ _ _ _ | show AWP _ _ _ _ _))) | ((first | refine j10 rfl rfl rfl ?_ | refine q11 rfl rfl rfl ?_); simp (disch := omega) only [go_sem, seval, hd, cb, ruleD]; (first | refine ⟨_, ks, ?_⟩)) | ((first | refine x8 [] rfl ?_ | refine j8 [] rfl ?_); simp (disch := omega) only [go_sem, seval, hd, cb, ruleD]; (repeat (first | refine ⟨by omega, ?_⟩ | refine ⟨True.intro, ?_⟩)))))
  refine x13 (woI l ids R) (fun s => ids.length - s.val.1) ⟨(0, p), by simp, hp, hps hs, by rw [List.drop_zero]; exact hR⟩ ?_ (fun s => ?_)
  ·unfold woI
   refine Weak.list ?_ ?_; (all_goals simp (disch := omega) only [AllF, AllL, x11, j11, z11, exists_eq_left', go_sem, seval, hd, cb, ruleD]); (all_goals (repeat' (with_reducible apply And.intro))); (all_goals try (first | exact q9 rfl | (refine q12 ?_; omega) | (refine q9 ?_; simp; done)))
  obtain ⟨⟨i, q⟩, h1, h2, h3, he⟩ := s
  unfold woI
  simp only [] at h1 h2 h3 he
  by_cases hn : i < ids.length
  ·rw [j31 ids i 0 hn] at he
   have r0' := x68 ids i
   have hk := hi _ (z24 hn 0)
   generalize ids.getD i 0 = k at he r0' hk
   have r1 := z20 l k
   have hms := z29 hs hk
   unfold woGo at he
   generalize l.getD k r0 = x at he r1 hms
   have kl := q103 q x.mt h3 h2 hms
   have kk := z58 (p := q) h3 hms
   have kn := z42 [x.mt] q h2
   have ko := j102 [x.mt] q
   generalize lessP [x.mt] q = u at he kl kk kn ko
   obtain ⟨u, e⟩ := u
   simp only [] at he kl kk kn ko
   unfold cb at kl
   rcases ko with rfl | ⟨rfl, rfl⟩
   ·rw [if_pos rfl] at he
    (repeat (first | apply j0 | refine q8 rfl ?_ | refine z8 rfl ?_ | apply x7 | (refine j4 fun K hK => ?_) | (refine x5 fun K hK => ?_) | ((first | apply j6 | apply z7 | ((first | refine x4 (hK _ ?_) | refine x6 (hK _ _ j5 ?_)); clear hK K)); (first | show AWP _ _ _ _ _ | ((try simp only [j7]); first | show loopQ _ _ _ _ _ _ | show cutQ _ _ _ _ | show AWP _ _ _ _ _))) | ((first | refine j10 rfl rfl rfl ?_ | refine q11 rfl rfl rfl ?_); simp (disch := omega) only [go_sem, seval, hd, cb, ruleD, r0', r1]; (first | refine ⟨_, kl, ?_⟩)) | ((first | refine x8 [] rfl ?_ | refine j8 [] rfl ?_); simp (disch := omega) only [go_sem, seval, hd, cb, ruleD, r0', r1]; (repeat (first | refine ⟨by omega, ?_⟩ | refine ⟨True.intro, ?_⟩)))))
    refine ⟨⟨(i + 1, u), by simp only []; omega, kn, kk rfl, he⟩, by simp only []; omega, ?_⟩
    refine Weak.list ?_ ?_; (all_goals simp (disch := omega) only [AllF, AllL, x11, j11, z11, exists_eq_left', go_sem, seval, hd, cb, ruleD, r0', r1]); (all_goals (repeat' (with_reducible apply And.intro))); (all_goals try (first | exact q9 rfl | (refine q12 ?_; omega) | (refine q9 ?_; simp; done)))
   ·rw [if_neg (by decide)] at he
    subst he
    (repeat (first | apply j0 | refine q8 rfl ?_ | refine z8 rfl ?_ | apply x7 | (refine j4 fun K hK => ?_) | (refine x5 fun K hK => ?_) | ((first | apply j6 | apply z7 | ((first | refine x4 (hK _ ?_) | refine x6 (hK _ _ j5 ?_)); clear hK K)); (first | show AWP _ _ _ _ _ | ((try simp only [j7]); first | show loopQ _ _ _ _ _ _ | show cutQ _ _ _ _ | show AWP _ _ _ _ _))) | ((first | refine j10 rfl rfl rfl ?_ | refine q11 rfl rfl rfl ?_); simp (disch := omega) only [go_sem, seval, hd, cb, ruleD, r0', r1]; (first | refine ⟨_, kl, ?_⟩)) | ((first | refine x8 [] rfl ?_ | refine j8 [] rfl ?_); simp (disch := omega) only [go_sem, seval, hd, cb, ruleD, r0', r1]; (repeat (first | refine ⟨by omega, ?_⟩ | refine ⟨True.intro, ?_⟩)))))
    refine q16 6 _ (.p (.d (.sl 4 0 (rowC [])))) rfl (z25 _ _ _ rfl) ?_
    refine q10 ⟨_, ?_, rfl⟩; rw [Tryz.results100]; simp (disch := omega) only [ResVars, ResVar, ptrLoc, go_sem, seval, hd, cb, ruleD, r0', r1]
  ·have : i = ids.length := by omega
   subst this
   rw [List.drop_length] at he
   unfold woGo at he
   subst he
   (repeat (first | apply j0 | refine q8 rfl ?_ | refine z8 rfl ?_ | apply x7 | (refine j4 fun K hK => ?_) | (refine x5 fun K hK => ?_) | ((first | apply j6 | apply z7 | ((first | refine x4 (hK _ ?_) | refine x6 (hK _ _ j5 ?_)); clear hK K)); (first | show AWP _ _ _ _ _ | ((try simp only [j7]); first | show loopQ _ _ _ _ _ _ | show cutQ _ _ _ _ | show AWP _ _ _ _ _))) | ((first | refine x8 [] rfl ?_ | refine j8 [] rfl ?_); simp (disch := omega) only [go_sem, seval, hd, cb, ruleD]; (repeat (first | refine ⟨by omega, ?_⟩ | refine ⟨True.intro, ?_⟩)))))
   refine q10 ⟨_, ?_, rfl⟩; rw [Tryz.results100]; simp (disch := omega) only [ResVars, ResVar, ptrLoc, go_sem, seval, hd, cb, ruleD]
theorem x159 (o : List Nat) (n : Nat) (hn : n ∈ o) (hl : o.length ≤ 1099511627776) : ACalls Tryz.prog 101 [.d (.sl 1 o.length (rowI o)), .d (.v (.int .i64 (n : Int)))] (· = [.d (.v (.int .i64 (o.idxOf n : Int)))]) := by
 have hlt := List.idxOf_lt_length_of_mem hn
 have hge := List.getElem_idxOf hlt
 have hno : ∀ i, i < o.idxOf n → o.getD i 0 ≠ n := fun i hi e => by
  rw [List.getD_eq_getElem?_getD, List.getElem?_eq_getElem (by omega)] at e
  have h2 := List.not_of_lt_findIdx (p := (· == n)) hi
  simp at e h2
  exact h2 e
 generalize o.idxOf n = k at *
 refine z12 Tryz.func101 rfl (by decide +kernel) (by rw [Tryz.ntmps101]; simp) ?_; rw [Tryz.ntmps101]; simp only [frOf]
 (repeat (first | apply j0 | refine q8 rfl ?_ | refine z8 rfl ?_ | apply x7 | (refine j4 fun K hK => ?_) | (refine x5 fun K hK => ?_) | ((first | apply j6 | apply z7 | ((first | refine x4 (hK _ ?_) | refine x6 (hK _ _ j5 ?_)); clear hK K)); (first | show AWP _ _ _ _ _ | ((try simp only [j7]); first | show loopQ _ _ _ _ _ _ | show cutQ _ _ _ _ | show AWP _ _ _ _ _))) | ((first | refine x8 [] rfl ?_ | refine j8 [] rfl ?_); simp (disch := omega) only [go_sem, seval, hd, cb, ruleD]; (repeat (first | refine ⟨by omega, ?_⟩ | refine ⟨True.intro, ?_⟩)))))
 refine x13 (fun i : {i : Nat // i ≤ k} => ⟨[(8, .p (.d (.v (.int .i64 (i.val : Int))))), (7, .p (.d (.v (.int .i64 (o.length : Int))))), (1, .p (.d (.v (.int .i64 (n : Int))))), (0, .p (.d (.sl 1 o.length (rowI o))))], []⟩) (fun i => k - i.val) ⟨0, by omega⟩ ?_ (fun s => ?_)
 ·refine Weak.list ?_ ?_; (all_goals simp (disch := omega) only [AllF, AllL, x11, j11, z11, exists_eq_left', go_sem, seval, hd, cb, ruleD]); (all_goals (repeat' (with_reducible apply And.intro))); (all_goals try (first | exact q9 rfl | (refine q12 ?_; omega) | (refine q9 ?_; simp; done)))
 obtain ⟨i, hi⟩ := s
 have r1 := x68 o i
 simp only []
 by_cases h : i < k
 ·have hne := hno i h
  generalize o.getD i 0 = m at r1 hne
  have q : ((n : Int) == (m : Int)) = false := z16 (by omega)
  (repeat (first | apply j0 | refine q8 rfl ?_ | refine z8 rfl ?_ | apply x7 | (refine j4 fun K hK => ?_) | (refine x5 fun K hK => ?_) | ((first | apply j6 | apply z7 | ((first | refine x4 (hK _ ?_) | refine x6 (hK _ _ j5 ?_)); clear hK K)); (first | show AWP _ _ _ _ _ | ((try simp only [j7]); first | show loopQ _ _ _ _ _ _ | show cutQ _ _ _ _ | show AWP _ _ _ _ _))) | ((first | refine x8 [] rfl ?_ | refine j8 [] rfl ?_); simp (disch := omega) only [go_sem, seval, hd, cb, ruleD, r1, q]; (repeat (first | refine ⟨by omega, ?_⟩ | refine ⟨True.intro, ?_⟩)))))
  refine ⟨⟨i + 1, by omega⟩, by simp only []; omega, ?_⟩
  refine Weak.list ?_ ?_; (all_goals simp (disch := omega) only [AllF, AllL, x11, j11, z11, exists_eq_left', go_sem, seval, hd, cb, ruleD, r1, q]); (all_goals (repeat' (with_reducible apply And.intro))); (all_goals try (first | exact q9 rfl | (refine q12 ?_; omega) | (refine q9 ?_; simp; done)))
 ·have : i = k := by omega
  subst this
  rw [List.getD_eq_getElem?_getD, List.getElem?_eq_getElem hlt, Option.getD_some, hge] at r1
  have q : ((n : Int) == (n : Int)) = true := q17 rfl
  (repeat (first | apply j0 | refine q8 rfl ?_ | refine z8 rfl ?_ | apply x7 | (refine j4 fun K hK => ?_) | (refine x5 fun K hK => ?_) | ((first | apply j6 | apply z7 | ((first | refine x4 (hK _ ?_) | refine x6 (hK _ _ j5 ?_)); clear hK K)); (first | show AWP _ _ _ _ _ | ((try simp only [j7]); first | show loopQ _ _ _ _ _ _ | show cutQ _ _ _ _ | show AWP _ _ _ _ _))) | ((first | refine x8 [] rfl ?_ | refine j8 [] rfl ?_); simp (disch := omega) only [go_sem, seval, hd, cb, ruleD, r1, q]; (repeat (first | refine ⟨by omega, ?_⟩ | refine ⟨True.intro, ?_⟩)))))
  refine q10 ⟨_, ?_, rfl⟩; rw [Tryz.results101]; simp (disch := omega) only [ResVars, ResVar, ptrLoc, go_sem, seval, hd, cb, ruleD, r1, q]
def seenR (l : List Rule) (n : Nat) : List Cube × Int := withoutR l ((orderR l).take ((orderR l).idxOf n)) [(l.getD n r0).mt]
theorem j159 (o : List Nat) (k i : Nat) (hi : i < k) : rowI o i = rowI (o.take k) i := by
 unfold rowI
 rw [List.getD_eq_getElem?_getD, List.getD_eq_getElem?_getD, List.getElem?_take_of_lt hi]
theorem z103 (c : Cube) (i : Nat) (hi : i < 1) : (fun i => [cb c].getD i []) i = rowC [c] i := by
 have : i = 0 := by omega
 subst this; rfl
theorem q160 (l : List Rule) (n : Nat) (hl : l.length ≤ 1099511627776) (hn : n < l.length) :
  ACalls Tryz.prog 100 [.d (.sl 12 l.length (rowR l)), .d (.sl 1 ((orderR l).idxOf n) (rowI (orderR l))), .d (.sl 4 1 fun i => [cb (l.getD n r0).mt].getD i [])] (· = [.d (.sl 4 (seenR l n).1.length (rowC (seenR l n).1)), .d (.v (.int .i64 (seenR l n).2))]) := by
 have hk : (orderR l).idxOf n ≤ (orderR l).length := List.idxOf_le_length
 have e : ((orderR l).take ((orderR l).idxOf n)).length = (orderR l).idxOf n := by rw [List.length_take]; exact Nat.min_eq_left hk
 have k := z159 l ((orderR l).take ((orderR l).idxOf n)) [(l.getD n r0).mt] hl (fun n hn => x32 (List.mem_of_mem_take hn)) (by rw [e]; rw [j28] at hk; omega) (by simp) (fun hs k hk => by simp at hk; subst hk; exact z29 hs hn)
 rw [e] at k
 exact j39 (.cons (z54 _) (.cons (q35 rfl fun i hi => j159 _ _ i hi) (.cons (q35 rfl fun i hi => z103 _ i hi) .nil))) k
set_option maxRecDepth 100000 in
theorem Seen_c (l : List Rule) (n : Nat) (hl : l.length ≤ 1099511627776) (hn : n < l.length) :
  ACalls Tryz.prog 65 [.d (.sl 12 l.length (rowR l)), .d (.v (.int .i64 (n : Int)))] (· = [.d (.sl 4 (seenR l n).1.length (rowC (seenR l n).1)), .d (.v (.int .i64 (seenR l n).2))]) := by
 have k1 := Look_c l hl
 have k2 := x159 (orderR l) n (z23.2 hn) (by rw [j28]; omega)
 rw [j28] at k2
 have k3 := q160 l n hl hn
 have hk : (orderR l).idxOf n ≤ l.length := by have := List.idxOf_le_length (l := orderR l) (a := n); rw [j28] at this; exact this
 have r1 := z20 l n
 generalize l.getD n r0 = x at r1 k3
 generalize seenR l n = R at k3 ⊢
 generalize (orderR l).idxOf n = m at *
 unfold cb at k3
 refine z12 Tryz.func65 rfl (by decide +kernel) (by rw [Tryz.ntmps65]; simp) ?_; rw [Tryz.ntmps65]; simp only [frOf]
 (repeat (first | apply j0 | refine q8 rfl ?_ | refine z8 rfl ?_ | apply x7 | (refine j4 fun K hK => ?_) | (refine x5 fun K hK => ?_) | ((first | apply j6 | apply z7 | ((first | refine x4 (hK _ ?_) | refine x6 (hK _ _ j5 ?_)); clear hK K)); (first | show AWP _ _ _ _ _ | ((try simp only [j7]); first | show loopQ _ _ _ _ _ _ | show cutQ _ _ _ _ | show AWP _ _ _ _ _))) | ((first | refine j10 rfl rfl rfl ?_ | refine q11 rfl rfl rfl ?_); simp (disch := omega) only [go_sem, seval, hd, cb, ruleD, r1]; (first | refine ⟨_, k1, ?_⟩ | refine ⟨_, k2, ?_⟩ | refine ⟨_, k3, ?_⟩)) | ((first | refine x8 [] rfl ?_ | refine j8 [] rfl ?_); simp (disch := omega) only [go_sem, seval, hd, cb, ruleD, r1]; (repeat (first | refine ⟨by omega, ?_⟩ | refine ⟨True.intro, ?_⟩)))))
 refine q10 ⟨_, ?_, rfl⟩; rw [Tryz.results65]; simp (disch := omega) only [ResVars, ResVar, ptrLoc, go_sem, seval, hd, cb, ruleD, r1]
theorem cmpO_gt {l : List Rule} {a b : Nat} : 0 < cmpO l a b ↔ ltR l b a := by
 unfold cmpO orI cmpI ltR
 generalize (l.getD b r0).pr = x
 generalize (l.getD a r0).pr = y
 by_cases h1 : x < y
 ·rw [if_pos h1, if_neg (by omega)]; omega
 ·rw [if_neg h1]
  by_cases h2 : y < x
  ·rw [if_pos h2, if_neg (by omega)]; omega
  ·rw [if_neg h2, if_pos rfl]
   by_cases h3 : a < b
   ·rw [if_pos (by omega)]; omega
   ·rw [if_neg (by omega)]
    split <;> omega
def behTo (l : List Rule) (n k : Nat) : List Nat := (List.range k).filter fun j => decide (0 < cmpO l j n)
def behR (l : List Rule) (n : Nat) : List Nat := (orderR l).drop ((orderR l).idxOf n + 1)
def nthN (l : List Nat) : Nat → Nat := fun i => l.getD i 0
theorem z160 (l : List Rule) (n k : Nat) : behTo l n (k + 1) = behTo l n k ++ if 0 < cmpO l k n then [k] else [] := by
 unfold behTo
 rw [List.range_succ, List.filter_append]
 congr 1
 by_cases h : 0 < cmpO l k n <;> simp [h]
theorem x160 {l : List Rule} {n k j : Nat} (h : j ∈ behTo l n k) : j < k := by
 unfold behTo at h
 exact List.mem_range.1 (List.mem_filter.1 h).1
theorem x103 (l : List Rule) (n k : Nat) : (behTo l n k).length ≤ k := by
 unfold behTo
 have := List.length_filter_le (fun j => decide (0 < cmpO l j n)) (List.range k)
 rwa [List.length_range] at this
theorem j103 (l : List Rule) (n k : Nat) : (behTo l n k).Nodup := List.Nodup.sublist List.filter_sublist List.nodup_range
theorem q104 (l : List Nat) : seg (nthN l) 0 l.length = l := by
 apply List.ext_getElem
 ·simp [seg]
 ·intro i h1 h2
  simp [seg, nthN, h2]
theorem z104 (l : List Rule) (n : Nat) : Dom (behTo l n l.length).length l.length (nthN (behTo l n l.length)) := by
 refine ⟨fun k hk => ?_, by rw [q104]; exact j103 _ _ _⟩
 unfold nthN
 exact x160 (z24 hk 0)
theorem x42 {l : List Rule} {n j : Nat} (hn : n < l.length) : j ∈ behR l n ↔ j < l.length ∧ ltR l n j := by
 have i1 := List.idxOf_lt_length_of_mem (z23.2 hn)
 have e1 := List.getElem_idxOf i1
 unfold behR
 rw [List.mem_drop_iff_getElem]
 constructor
 ·rintro ⟨i, hi, rfl⟩
  refine ⟨x32 (List.getElem_mem _), ?_⟩
  have := List.pairwise_iff_getElem.1 (q41 l) _ _ i1 (show (orderR l).idxOf n + 1 + i < (orderR l).length by omega) (by omega)
  rw [e1] at this
  simpa [Nat.add_comm] using this
 ·rintro ⟨hj, hlt⟩
  have i2 := List.idxOf_lt_length_of_mem (z23.2 hj)
  have e2 := List.getElem_idxOf i2
  have : (orderR l).idxOf n < (orderR l).idxOf j := by
   have := (x41 hn hj).2 hlt
   unfold keyO at this; omega
  refine ⟨(orderR l).idxOf j - ((orderR l).idxOf n + 1), by omega, ?_⟩
  have e : (orderR l).idxOf n + 1 + ((orderR l).idxOf j - ((orderR l).idxOf n + 1)) = (orderR l).idxOf j := by omega
  simp only [e]
  exact e2
theorem x71 (l : List Rule) (n : Nat) : (behR l n).Pairwise (ltR l) := (q41 l).sublist (List.drop_sublist _ _)
theorem x104 {l : List Rule} {n : Nat} (hn : n < l.length) : (behR l n).Perm (behTo l n l.length) := by
 refine (List.perm_ext_iff_of_nodup ?_ (j103 _ _ _)).2 fun j => ?_
 ·unfold List.Nodup; exact (x71 l n).imp fun {a b} h => fun e => by subst e; exact j68 h
 ·rw [x42 hn]
  unfold behTo
  rw [List.mem_filter, List.mem_range, decide_eq_true_eq, cmpO_gt]
theorem j104 {l : List Rule} {n : Nat} (hn : n < l.length) : (behR l n).length = (behTo l n l.length).length := (x104 hn).length_eq
theorem j160 {l : List Rule} {n : Nat} (hn : n < l.length) {y : Nat → Nat} (hp : PE 0 (behTo l n l.length).length (nthN (behTo l n l.length)) y) (hs : Srt (keyO l) 0 (behTo l n l.length).length y) :
  ∀ i, i < (behR l n).length → y i = (behR l n).getD i 0 := by
 have hl := j104 hn
 have dy := (z104 l n).pe hp (Nat.zero_le _) (Nat.le_refl _)
 have p1 : (seg y 0 (behTo l n l.length).length).Perm (behR l n) := by
  have := hp.perm
  rw [q104] at this
  exact List.Perm.trans (by first | exact this | exact this.symm) (x104 hn).symm
 have s1 : (seg y 0 (behTo l n l.length).length).Pairwise (ltR l) := by
  rw [List.pairwise_iff_getElem]
  intro i j hi hj hij
  have li : i < (behTo l n l.length).length := by simpa [seg] using hi
  have lj : j < (behTo l n l.length).length := by simpa [seg] using hj
  have h1 := hs i j (Nat.zero_le _) hij lj
  have h2 : keyO l (y i) ≠ keyO l (y j) := fun e => by
   have := dy.inj li lj (z41 (dy.lt i li) (dy.lt j lj) e); omega
  have := (x41 (dy.lt i li) (dy.lt j lj)).1 (by omega)
  simpa [seg] using this
 have e := List.Perm.eq_of_pairwise (fun a b _ _ h1 h2 => absurd h2 (q96 h1)) s1 (x71 l n) p1
 intro i hi
 rw [← e]
 have : i < (behTo l n l.length).length := by omega
 simp [seg, this]
end Go.Proofs.YtemcdefpihkfpaaGreat
