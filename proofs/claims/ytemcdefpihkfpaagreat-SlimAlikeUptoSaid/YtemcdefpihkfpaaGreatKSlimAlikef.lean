/- Part 6 of a proof: lemmas beneath the theorem that the last text bears. Conditions: none. -/
import Derived.Test.YtemcdefpihkfpaaGreatKSlimAlikee
set_option linter.unusedSimpArgs false
set_option linter.unusedVariables false
namespace Go.Proofs.YtemcdefpihkfpaaGreat
open Go.Proofs.YtemcdefpihkfpaaGreat.AL
def bestH (l : List Rule) (h : BitVec 128) (i : Nat) : Option Nat := bestTo (fun i => !hasC (l.getD i r0).mt h) (fun i => l.getD i r0) i
def rfI (l : List Rule) (h : BitVec 128) (i : {i : Nat // i ≤ l.length}) : ASt :=
 ⟨[(7, .p (.d (.v (.int .i64 (i.val : Int))))), (6, .p (.d (.v (.int .i64 (bestI (bestH l h i.val)))))), (3, .p (.d (.bx (hd h)))), (0, .p (.d (.sl 12 l.length (rowR l))))], []⟩
theorem z173 {l : List Rule} {h : BitVec 128} {i b : Nat} (e : bestH l h i = some b) : b < i := by
 have sp := x35 (fun i => !hasC (l.getD i r0).mt h) (fun i => l.getD i r0) i
 unfold bestH at e
 rw [e] at sp
 exact sp.1
theorem x173 (l : List Rule) (h : BitVec 128) (i : Nat) : bestH l h (i + 1) = match bestH l h i with
  | none => if hasC (l.getD i r0).mt h then some i else none
  | some b => if hasC (l.getD i r0).mt h then (if (l.getD b r0).pr < (l.getD i r0).pr then some i else some b) else some b := by
 unfold bestH
 rw [z145]
 cases bestTo (fun i => !hasC (l.getD i r0).mt h) (fun i => l.getD i r0) i <;> cases hasC (l.getD i r0).mt h <;> rfl
set_option maxRecDepth 100000 in
set_option maxHeartbeats 4000000 in
theorem z110 (l : List Rule) (h : BitVec 128) (hl : l.length ≤ 1099511627776) : ACalls Tryz.prog 33 [.d (.sl 12 l.length (rowR l)), .agg (hd h)]
  (· = [.d (.v (.int .i64 (((bestH l h l.length).getD 0 : Nat) : Int))), .d (.v (.bool (bestH l h l.length).isSome))]) := by
 refine z12 Tryz.func33 rfl (by decide +kernel) (by rw [Tryz.ntmps33]; simp) ?_; rw [Tryz.ntmps33]; simp only [frOf]
 (repeat (first | apply j0 | refine q8 rfl ?_ | refine z8 rfl ?_ | apply x7 | (refine j4 fun K hK => ?_) | (refine x5 fun K hK => ?_) | ((first | apply j6 | apply z7 | ((first | refine x4 (hK _ ?_) | refine x6 (hK _ _ j5 ?_)); clear hK K)); (first | show AWP _ _ _ _ _ | ((try simp only [j7]); first | show loopQ _ _ _ _ _ _ | show cutQ _ _ _ _ | show AWP _ _ _ _ _))) | ((first | refine x8 [] rfl ?_ | refine j8 [] rfl ?_); simp (disch := omega) only [go_sem, seval, hd, cb, ruleD]; (repeat (first | refine ⟨by omega, ?_⟩ | refine ⟨True.intro, ?_⟩)))))
 refine x13 (rfI l h) (fun s => l.length - s.val) ⟨0, by omega⟩ ?_ (fun s => ?_)
 ·unfold rfI
  refine Weak.list ?_ ?_; (all_goals simp (disch := omega) only [AllF, AllL, x11, j11, z11, exists_eq_left', go_sem, seval, hd, cb, ruleD]); (all_goals (repeat' (with_reducible apply And.intro))); (all_goals try (first | exact q9 rfl | (refine q12 ?_; omega) | (refine q9 ?_; simp; done)))
 obtain ⟨i, hi⟩ := s
 unfold rfI
 have sc := x173 l h i
 have lt := fun b => @z173 l h i b
 by_cases hn : i < l.length
 ·have r1 := z20 l i
  have lk : ∀ b, rowR l b = ruleD (l.getD b r0) := z20 l
  generalize l.getD i r0 = x at r1 sc
  have tc := Text_c x.mt
  unfold cb at tc
  cases hs : x.mt.sound
  ·have hh : hasC x.mt h = false := by unfold hasC; rw [hs]; rfl
   rw [hs] at tc
   rw [hh] at sc
   simp only [Bool.false_eq_true, if_false] at tc sc
   have sc' : bestH l h (i + 1) = bestH l h i := by rw [sc]; cases bestH l h i <;> rfl
   (repeat (first | apply j0 | refine q8 rfl ?_ | refine z8 rfl ?_ | apply x7 | (refine j4 fun K hK => ?_) | (refine x5 fun K hK => ?_) | ((first | apply j6 | apply z7 | ((first | refine x4 (hK _ ?_) | refine x6 (hK _ _ j5 ?_)); clear hK K)); (first | show AWP _ _ _ _ _ | ((try simp only [j7]); first | show loopQ _ _ _ _ _ _ | show cutQ _ _ _ _ | show AWP _ _ _ _ _))) | ((first | refine j10 rfl rfl rfl ?_ | refine q11 rfl rfl rfl ?_); simp (disch := omega) only [go_sem, seval, hd, cb, ruleD, r1]; (first | refine ⟨_, tc, ?_⟩)) | ((first | refine x8 [] rfl ?_ | refine j8 [] rfl ?_); simp (disch := omega) only [go_sem, seval, hd, cb, ruleD, r1]; (repeat (first | refine ⟨by omega, ?_⟩ | refine ⟨True.intro, ?_⟩)))))
   refine ⟨⟨i + 1, by omega⟩, by simp only []; omega, ?_⟩
   simp only [sc']
   refine Weak.list ?_ ?_; (all_goals simp (disch := omega) only [AllF, AllL, x11, j11, z11, exists_eq_left', go_sem, seval, hd, cb, ruleD, r1]); (all_goals (repeat' (with_reducible apply And.intro))); (all_goals try (first | exact q9 rfl | (refine q12 ?_; omega) | (refine q9 ?_; simp; done)))
  ·rw [hs] at tc
   simp only [if_true] at tc
   have hc := Hast_c x.mt h
   rw [j155 hs] at hc
   cases hh : hasC x.mt h
   ·rw [hh] at sc hc
    simp only [Bool.false_eq_true, if_false] at sc
    have sc' : bestH l h (i + 1) = bestH l h i := by rw [sc]; cases bestH l h i <;> rfl
    generalize txt x.mt = tx at tc hc
    (repeat (first | apply j0 | refine q8 rfl ?_ | refine z8 rfl ?_ | apply x7 | (refine j4 fun K hK => ?_) | (refine x5 fun K hK => ?_) | ((first | apply j6 | apply z7 | ((first | refine x4 (hK _ ?_) | refine x6 (hK _ _ j5 ?_)); clear hK K)); (first | show AWP _ _ _ _ _ | ((try simp only [j7]); first | show loopQ _ _ _ _ _ _ | show cutQ _ _ _ _ | show AWP _ _ _ _ _))) | ((first | refine j10 rfl rfl rfl ?_ | refine q11 rfl rfl rfl ?_); simp (disch := omega) only [go_sem, seval, hd, cb, ruleD, r1]; (first | refine ⟨_, tc, ?_⟩ | refine ⟨_, hc, ?_⟩)) | ((first | refine x8 [] rfl ?_ | refine j8 [] rfl ?_); simp (disch := omega) only [go_sem, seval, hd, cb, ruleD, r1]; (repeat (first | refine ⟨by omega, ?_⟩ | refine ⟨True.intro, ?_⟩)))))
    refine ⟨⟨i + 1, by omega⟩, by simp only []; omega, ?_⟩
    simp only [sc']
    refine Weak.list ?_ ?_; (all_goals simp (disch := omega) only [AllF, AllL, x11, j11, z11, exists_eq_left', go_sem, seval, hd, cb, ruleD, r1]); (all_goals (repeat' (with_reducible apply And.intro))); (all_goals try (first | exact q9 rfl | (refine q12 ?_; omega) | (refine q9 ?_; simp; done)))
   ·rw [hh] at sc hc
    simp only [if_true] at sc
    generalize txt x.mt = tx at tc hc
    cases hb : bestH l h i with
    |none =>
     rw [hb] at sc
     simp only [] at sc
     (repeat (first | apply j0 | refine q8 rfl ?_ | refine z8 rfl ?_ | apply x7 | (refine j4 fun K hK => ?_) | (refine x5 fun K hK => ?_) | ((first | apply j6 | apply z7 | ((first | refine x4 (hK _ ?_) | refine x6 (hK _ _ j5 ?_)); clear hK K)); (first | show AWP _ _ _ _ _ | ((try simp only [j7]); first | show loopQ _ _ _ _ _ _ | show cutQ _ _ _ _ | show AWP _ _ _ _ _))) | ((first | refine j10 rfl rfl rfl ?_ | refine q11 rfl rfl rfl ?_); simp (disch := omega) only [go_sem, seval, hd, cb, ruleD, r1, bestI]; (first | refine ⟨_, tc, ?_⟩ | refine ⟨_, hc, ?_⟩)) | ((first | refine x8 [] rfl ?_ | refine j8 [] rfl ?_); simp (disch := omega) only [go_sem, seval, hd, cb, ruleD, r1, bestI]; (repeat (first | refine ⟨by omega, ?_⟩ | refine ⟨True.intro, ?_⟩)))))
     refine ⟨⟨i + 1, by omega⟩, by simp only []; omega, ?_⟩
     simp only [sc]
     refine Weak.list ?_ ?_; (all_goals simp (disch := omega) only [AllF, AllL, x11, j11, z11, exists_eq_left', go_sem, seval, hd, cb, ruleD, r1, bestI]); (all_goals (repeat' (with_reducible apply And.intro))); (all_goals try (first | exact q9 rfl | (refine q12 ?_; omega) | (refine q9 ?_; simp; done)))
    |some b =>
     have hlt := lt b hb
     rw [hb] at sc
     simp only [] at sc
     have r2 := lk b
     generalize l.getD b r0 = y at r2 sc
     by_cases hp : y.pr < x.pr
     ·rw [if_pos hp] at sc
      (repeat (first | apply j0 | refine q8 rfl ?_ | refine z8 rfl ?_ | apply x7 | (refine j4 fun K hK => ?_) | (refine x5 fun K hK => ?_) | ((first | apply j6 | apply z7 | ((first | refine x4 (hK _ ?_) | refine x6 (hK _ _ j5 ?_)); clear hK K)); (first | show AWP _ _ _ _ _ | ((try simp only [j7]); first | show loopQ _ _ _ _ _ _ | show cutQ _ _ _ _ | show AWP _ _ _ _ _))) | ((first | refine j10 rfl rfl rfl ?_ | refine q11 rfl rfl rfl ?_); simp (disch := omega) only [go_sem, seval, hd, cb, ruleD, r1, r2, bestI]; (first | refine ⟨_, tc, ?_⟩ | refine ⟨_, hc, ?_⟩)) | ((first | refine x8 [] rfl ?_ | refine j8 [] rfl ?_); simp (disch := omega) only [go_sem, seval, hd, cb, ruleD, r1, r2, bestI]; (repeat (first | refine ⟨by omega, ?_⟩ | refine ⟨True.intro, ?_⟩)))))
      refine ⟨⟨i + 1, by omega⟩, by simp only []; omega, ?_⟩
      simp only [sc]
      refine Weak.list ?_ ?_; (all_goals simp (disch := omega) only [AllF, AllL, x11, j11, z11, exists_eq_left', go_sem, seval, hd, cb, ruleD, r1, r2, bestI]); (all_goals (repeat' (with_reducible apply And.intro))); (all_goals try (first | exact q9 rfl | (refine q12 ?_; omega) | (refine q9 ?_; simp; done)))
     ·rw [if_neg hp] at sc
      (repeat (first | apply j0 | refine q8 rfl ?_ | refine z8 rfl ?_ | apply x7 | (refine j4 fun K hK => ?_) | (refine x5 fun K hK => ?_) | ((first | apply j6 | apply z7 | ((first | refine x4 (hK _ ?_) | refine x6 (hK _ _ j5 ?_)); clear hK K)); (first | show AWP _ _ _ _ _ | ((try simp only [j7]); first | show loopQ _ _ _ _ _ _ | show cutQ _ _ _ _ | show AWP _ _ _ _ _))) | ((first | refine j10 rfl rfl rfl ?_ | refine q11 rfl rfl rfl ?_); simp (disch := omega) only [go_sem, seval, hd, cb, ruleD, r1, r2, bestI]; (first | refine ⟨_, tc, ?_⟩ | refine ⟨_, hc, ?_⟩)) | ((first | refine x8 [] rfl ?_ | refine j8 [] rfl ?_); simp (disch := omega) only [go_sem, seval, hd, cb, ruleD, r1, r2, bestI]; (repeat (first | refine ⟨by omega, ?_⟩ | refine ⟨True.intro, ?_⟩)))))
      refine ⟨⟨i + 1, by omega⟩, by simp only []; omega, ?_⟩
      simp only [sc]
      refine Weak.list ?_ ?_; (all_goals simp (disch := omega) only [AllF, AllL, x11, j11, z11, exists_eq_left', go_sem, seval, hd, cb, ruleD, r1, r2, bestI]); (all_goals (repeat' (with_reducible apply And.intro))); (all_goals try (first | exact q9 rfl | (refine q12 ?_; omega) | (refine q9 ?_; simp; done)))
 ·have : i = l.length := by omega
  subst this
  cases hb : bestH l h l.length with
  |none =>
   (repeat (first | apply j0 | refine q8 rfl ?_ | refine z8 rfl ?_ | apply x7 | (refine j4 fun K hK => ?_) | (refine x5 fun K hK => ?_) | ((first | apply j6 | apply z7 | ((first | refine x4 (hK _ ?_) | refine x6 (hK _ _ j5 ?_)); clear hK K)); (first | show AWP _ _ _ _ _ | ((try simp only [j7]); first | show loopQ _ _ _ _ _ _ | show cutQ _ _ _ _ | show AWP _ _ _ _ _))) | ((first | refine x8 [] rfl ?_ | refine j8 [] rfl ?_); simp (disch := omega) only [go_sem, seval, hd, cb, ruleD, bestI]; (repeat (first | refine ⟨by omega, ?_⟩ | refine ⟨True.intro, ?_⟩)))))
   refine q10 ⟨_, ?_, rfl⟩; rw [Tryz.results33]; simp (disch := omega) only [ResVars, ResVar, ptrLoc, go_sem, seval, hd, cb, ruleD, bestI]
  |some b =>
   have q : decide ((b : Int) < 0) = false := decide_eq_false (by omega)
   (repeat (first | apply j0 | refine q8 rfl ?_ | refine z8 rfl ?_ | apply x7 | (refine j4 fun K hK => ?_) | (refine x5 fun K hK => ?_) | ((first | apply j6 | apply z7 | ((first | refine x4 (hK _ ?_) | refine x6 (hK _ _ j5 ?_)); clear hK K)); (first | show AWP _ _ _ _ _ | ((try simp only [j7]); first | show loopQ _ _ _ _ _ _ | show cutQ _ _ _ _ | show AWP _ _ _ _ _))) | ((first | refine x8 [] rfl ?_ | refine j8 [] rfl ?_); simp (disch := omega) only [go_sem, seval, hd, cb, ruleD, bestI]; (repeat (first | refine ⟨by omega, ?_⟩ | refine ⟨True.intro, ?_⟩)))))
   refine q10 ⟨_, ?_, rfl⟩; rw [Tryz.results33]; simp (disch := omega) only [ResVars, ResVar, ptrLoc, go_sem, seval, hd, cb, ruleD, bestI]
theorem q60 (l : List Rule) (h : BitVec 128) : findR l h = bestH l h l.length := by
 have sp := x35 (fun i => !hasC (l.getD i r0).mt h) (fun i => l.getD i r0) l.length
 unfold findR bestH
 have go : ∀ o : List Nat, o.Pairwise (ltR l) → (∀ q, q < l.length → hasC (l.getD q r0).mt h = true → q ∈ o) → (∀ q ∈ o, q < l.length) → findO l h o = bestTo (fun i => !hasC (l.getD i r0).mt h) (fun i => l.getD i r0) l.length := by
  intro o
  induction o with
  |nil =>
   intro _ h2 _
   unfold findO
   cases hb : bestTo (fun i => !hasC (l.getD i r0).mt h) (fun i => l.getD i r0) l.length with
   | none => rfl
   |some p =>
    rw [hb] at sp
    have := h2 p sp.1 (by simpa using sp.2.1)
    cases this
  |cons n r ih =>
   intro h1 h2 h3
   obtain ⟨p1, p2⟩ := List.pairwise_cons.1 h1
   unfold findO
   cases hn : hasC (l.getD n r0).mt h
   ·simp only [Bool.false_eq_true, if_false]
    refine ih p2 (fun q hq hq2 => ?_) (fun q hq => h3 q (by simp [hq]))
    rcases List.mem_cons.1 (h2 q hq hq2) with e | e
    ·subst e; rw [hn] at hq2; cases hq2
    ·exact e
   ·simp only [if_true]
    cases hb : bestTo (fun i => !hasC (l.getD i r0).mt h) (fun i => l.getD i r0) l.length with
    |none =>
     rw [hb] at sp
     have := sp n (h3 n (by simp))
     rw [hn] at this; cases this
    |some p =>
     rw [hb] at sp
     obtain ⟨s1, s2, s3⟩ := sp
     have hp : hasC (l.getD p r0).mt h = true := by simpa using s2
     rcases List.mem_cons.1 (h2 p s1 hp) with e | e
     ·rw [e]
     ·have l1 := p1 p e
      have := s3 n (h3 n (by simp)) (by rw [hn]; rfl)
      unfold ltR at l1
      omega
 exact go _ (q41 l) (fun q hq _ => z23.2 hq) (fun q hq => x32 hq)
def rsI (l : List Rule) (n : Nat) (i : {i : Nat // i ≤ (orderR l).idxOf n}) : ASt :=
 ⟨[(7, .p (.d (.v (.int .i64 (i.val : Int))))), (6, .p (.d (.sl 1 l.length (rowI (orderR l))))), (1, .p (.d (.v (.int .i64 (n : Int))))), (0, .p (.d (.sl 12 l.length (rowR l))))], []⟩
end Go.Proofs.YtemcdefpihkfpaaGreat
namespace Go.Proofs.YtemcdefpihkfpaaGreat
open Go Go.Proofs.YtemcdefpihkfpaaGreat.AL
theorem few29_c (p : List Rule) (hl : p.length ≤ 1099511627776) : ACalls Tryz.prog 27 [.d (.sl 12 p.length (rowR p))] (· = [.d (.sl 12 (p.take 8).length (rowR (p.take 8)))]) := by
 have rt : ∀ i, i < 8 → rowR p i = rowR (p.take 8) i := fun i hi => by
  unfold rowR
  rw [List.getD_eq_getElem?_getD, List.getD_eq_getElem?_getD, List.getElem?_take_of_lt hi]
 by_cases h : 8 < p.length
 ·have e : (p.take 8).length = 8 := by simp; omega
  rw [e]
  refine z12 Tryz.func27 rfl (by decide +kernel) (by rw [Tryz.ntmps27]; simp) ?_; rw [Tryz.ntmps27]; simp only [frOf]
  (repeat (first | apply j0 | refine q8 rfl ?_ | refine z8 rfl ?_ | apply x7 | (refine j4 fun K hK => ?_) | (refine x5 fun K hK => ?_) | ((first | apply j6 | apply z7 | ((first | refine x4 (hK _ ?_) | refine x6 (hK _ _ j5 ?_)); clear hK K)); (first | show AWP _ _ _ _ _ | ((try simp only [j7]); first | show loopQ _ _ _ _ _ _ | show cutQ _ _ _ _ | show AWP _ _ _ _ _))) | ((first | refine x8 [] rfl ?_ | refine j8 [] rfl ?_); simp (disch := omega) only [go_sem, seval, hd, cb, ruleD]; (repeat (first | refine ⟨by omega, ?_⟩ | refine ⟨True.intro, ?_⟩)))))
  refine q16 2 _ (.p (.d (.sl 12 8 (rowR (p.take 8))))) rfl (j50 rfl (fun i hi => by simpa using rt i hi)) ?_
  refine q10 ⟨_, ?_, rfl⟩; rw [Tryz.results27]; simp (disch := omega) only [ResVars, ResVar, ptrLoc, go_sem, seval, hd, cb, ruleD]
 ·rw [List.take_of_length_le (by omega)]
  refine z12 Tryz.func27 rfl (by decide +kernel) (by rw [Tryz.ntmps27]; simp) ?_; rw [Tryz.ntmps27]; simp only [frOf]
  (repeat (first | apply j0 | refine q8 rfl ?_ | refine z8 rfl ?_ | apply x7 | (refine j4 fun K hK => ?_) | (refine x5 fun K hK => ?_) | ((first | apply j6 | apply z7 | ((first | refine x4 (hK _ ?_) | refine x6 (hK _ _ j5 ?_)); clear hK K)); (first | show AWP _ _ _ _ _ | ((try simp only [j7]); first | show loopQ _ _ _ _ _ _ | show cutQ _ _ _ _ | show AWP _ _ _ _ _))) | ((first | refine x8 [] rfl ?_ | refine j8 [] rfl ?_); simp (disch := omega) only [go_sem, seval, hd, cb, ruleD]; (repeat (first | refine ⟨by omega, ?_⟩ | refine ⟨True.intro, ?_⟩)))))
  refine q10 ⟨_, ?_, rfl⟩; rw [Tryz.results27]; simp (disch := omega) only [ResVars, ResVar, ptrLoc, go_sem, seval, hd, cb, ruleD]
theorem q33 {α : Type} {e : α → α → Bool} {d : α} {a b : List α} (h : a.length ≠ b.length) : eqBy e d a b = false := by unfold eqBy; rw [if_neg h]
theorem z33 {α : Type} {e : α → α → Bool} {d : α} {a b : List α} (h : a.length = b.length) : eqBy e d a b = allF (fun i => e (a.getD i d) (b.getD i d)) a.length 0 := by unfold eqBy; rw [if_pos h]
def rul8A (a b : List (List Rule)) (R : Bool) (s : {i : Nat // i ≤ a.length ∧ allF (fun i => eqRR (a.getD i []) (b.getD i [])) a.length i = R}) : ASt :=
 ⟨[(5, .p (.d (.v (.int .i64 (s.val : Int))))), (1, .p (.d (.sl 1 b.length (rowRR b)))), (0, .p (.d (.sl 1 a.length (rowRR a))))], []⟩
def rul8B (a b : List (List Rule)) (x y : List Rule) (i : Nat) (Q : Bool) (s : {k : Nat // k ≤ x.length ∧ allF (fun k => x.getD k r0 == y.getD k r0) x.length k = Q}) : ASt :=
 ⟨[(6, .p (.d (.v (.int .i64 (s.val : Int))))), (5, .p (.d (.v (.int .i64 (i : Int))))), (1, .p (.d (.sl 1 b.length (rowRR b)))), (0, .p (.d (.sl 1 a.length (rowRR a))))], []⟩
set_option maxRecDepth 100000 in
set_option maxHeartbeats 4000000 in
theorem j173 (a b : List (List Rule)) (ha : smallR a) (hb : smallR b) : ACalls Tryz.prog 32 [.d (.sl 1 a.length (rowRR a)), .d (.sl 1 b.length (rowRR b))] (· = [.d (.v (.bool (eqBy eqRR [] a b)))]) := by
 have hs := ha.1
 have hs' := hb.1
 by_cases hn : a.length = b.length
 ·rw [z33 hn]
  have q0 : ((a.length : Int) != (b.length : Int)) = false := x16 (by omega)
  generalize hR : allF (fun i => eqRR (a.getD i []) (b.getD i [])) a.length 0 = R
  refine z12 Tryz.func32 rfl (by decide +kernel) (by rw [Tryz.ntmps32]; simp) ?_; rw [Tryz.ntmps32]; simp only [frOf]
  (repeat (first | apply j0 | refine q8 rfl ?_ | refine z8 rfl ?_ | apply x7 | (refine j4 fun K hK => ?_) | (refine x5 fun K hK => ?_) | ((first | apply j6 | apply z7 | ((first | refine x4 (hK _ ?_) | refine x6 (hK _ _ j5 ?_)); clear hK K)); (first | show AWP _ _ _ _ _ | ((try simp only [j7]); first | show loopQ _ _ _ _ _ _ | show cutQ _ _ _ _ | show AWP _ _ _ _ _))) | ((first | refine x8 [] rfl ?_ | refine j8 [] rfl ?_); simp (disch := omega) only [go_sem, seval, ruleD, z13, q0]; (repeat (first | refine ⟨by omega, ?_⟩ | refine ⟨True.intro, ?_⟩)))))
  refine x13 (rul8A a b R) (fun s => a.length - s.val) ⟨0, Nat.zero_le _, hR⟩ ?_ (fun s => ?_)
  ·unfold rul8A
   refine Weak.list ?_ ?_; (all_goals simp (disch := omega) only [AllF, AllL, x11, j11, z11, exists_eq_left', go_sem, seval, ruleD, z13]); (all_goals (repeat' (with_reducible apply And.intro))); (all_goals try (first | exact q9 rfl | (refine q12 ?_; omega) | (refine q9 ?_; simp; done)))
  obtain ⟨i, hi, h2⟩ := s
  unfold rul8A
  simp only [] at hi h2 ⊢
  by_cases h : i < a.length
  ·rw [z21 h] at h2
   have r1 := q44 a i
   have r2 := q44 b i
   have l1 := j36 ha i
   have l2 := j36 hb i
   try simp only [] at h2
   generalize a.getD i [] = x at h2 r1 l1
   generalize b.getD i [] = y at h2 r2 l2
   by_cases hxy : x.length = y.length
   ·have q1 : ((x.length : Int) != (y.length : Int)) = false := x16 (by omega)
    have eQ : eqRR x y = allF (fun k => x.getD k r0 == y.getD k r0) x.length 0 := z33 hxy
    generalize eqRR x y = Q at h2 eQ
    (repeat (first | apply j0 | refine q8 rfl ?_ | refine z8 rfl ?_ | apply x7 | (refine j4 fun K hK => ?_) | (refine x5 fun K hK => ?_) | ((first | apply j6 | apply z7 | ((first | refine x4 (hK _ ?_) | refine x6 (hK _ _ j5 ?_)); clear hK K)); (first | show AWP _ _ _ _ _ | ((try simp only [j7]); first | show loopQ _ _ _ _ _ _ | show cutQ _ _ _ _ | show AWP _ _ _ _ _))) | ((first | refine x8 [] rfl ?_ | refine j8 [] rfl ?_); simp (disch := omega) only [go_sem, seval, ruleD, z13, r1, r2, q1]; (repeat (first | refine ⟨by omega, ?_⟩ | refine ⟨True.intro, ?_⟩)))))
    refine x13 (rul8B a b x y i Q) (fun s => x.length - s.val) ⟨0, Nat.zero_le _, eQ.symm⟩ ?_ (fun s => ?_)
    ·unfold rul8B
     refine Weak.list ?_ ?_; (all_goals simp (disch := omega) only [AllF, AllL, x11, j11, z11, exists_eq_left', go_sem, seval, ruleD, z13, r1, r2, q1]); (all_goals (repeat' (with_reducible apply And.intro))); (all_goals try (first | exact q9 rfl | (refine q12 ?_; omega) | (refine q9 ?_; simp; done)))
    obtain ⟨k, hk, h3⟩ := s
    unfold rul8B
    simp only [] at hk h3 ⊢
    by_cases hkl : k < x.length
    ·rw [z21 hkl] at h3
     have r3 := z20 x k
     have r4 := z20 y k
     try simp only [] at h3
     generalize x.getD k r0 = u at h3 r3
     generalize y.getD k r0 = v at h3 r4
     have e := z143 u v
     generalize (u == v) = c at h3 e
     cases c
     ·rw [Bool.false_and] at h3
      subst h3
      rw [Bool.false_and] at h2
      subst h2
      (repeat (first | apply j0 | refine q8 rfl ?_ | refine z8 rfl ?_ | apply x7 | (refine j4 fun K hK => ?_) | (refine x5 fun K hK => ?_) | ((first | apply j6 | apply z7 | ((first | refine x4 (hK _ ?_) | refine x6 (hK _ _ j5 ?_)); clear hK K)); (first | show AWP _ _ _ _ _ | ((try simp only [j7]); first | show loopQ _ _ _ _ _ _ | show cutQ _ _ _ _ | show AWP _ _ _ _ _))) | ((first | refine x8 [] rfl ?_ | refine j8 [] rfl ?_); simp (disch := omega) only [go_sem, seval, ruleD, z13, r1, r2, r3, r4, e]; (repeat (first | refine ⟨by omega, ?_⟩ | refine ⟨True.intro, ?_⟩)))))
      refine q10 ⟨_, ?_, rfl⟩; rw [Tryz.results32]; simp (disch := omega) only [ResVars, ResVar, ptrLoc, go_sem, seval, ruleD, z13, r1, r2, r3, r4, e]
     ·rw [Bool.true_and] at h3
      (repeat (first | apply j0 | refine q8 rfl ?_ | refine z8 rfl ?_ | apply x7 | (refine j4 fun K hK => ?_) | (refine x5 fun K hK => ?_) | ((first | apply j6 | apply z7 | ((first | refine x4 (hK _ ?_) | refine x6 (hK _ _ j5 ?_)); clear hK K)); (first | show AWP _ _ _ _ _ | ((try simp only [j7]); first | show loopQ _ _ _ _ _ _ | show cutQ _ _ _ _ | show AWP _ _ _ _ _))) | ((first | refine x8 [] rfl ?_ | refine j8 [] rfl ?_); simp (disch := omega) only [go_sem, seval, ruleD, z13, r1, r2, r3, r4, e]; (repeat (first | refine ⟨by omega, ?_⟩ | refine ⟨True.intro, ?_⟩)))))
      refine ⟨⟨k + 1, by omega, h3⟩, by simp only []; omega, ?_⟩
      refine Weak.list ?_ ?_; (all_goals simp (disch := omega) only [AllF, AllL, x11, j11, z11, exists_eq_left', go_sem, seval, ruleD, z13, r1, r2, r3, r4, e]); (all_goals (repeat' (with_reducible apply And.intro))); (all_goals try (first | exact q9 rfl | (refine q12 ?_; omega) | (refine q9 ?_; simp; done)))
    ·rw [x21 (by omega)] at h3
     subst h3
     rw [Bool.true_and] at h2
     (repeat (first | apply j0 | refine q8 rfl ?_ | refine z8 rfl ?_ | apply x7 | (refine j4 fun K hK => ?_) | (refine x5 fun K hK => ?_) | ((first | apply j6 | apply z7 | ((first | refine x4 (hK _ ?_) | refine x6 (hK _ _ j5 ?_)); clear hK K)); (first | show AWP _ _ _ _ _ | ((try simp only [j7]); first | show loopQ _ _ _ _ _ _ | show cutQ _ _ _ _ | show AWP _ _ _ _ _))) | ((first | refine x8 [] rfl ?_ | refine j8 [] rfl ?_); simp (disch := omega) only [go_sem, seval, ruleD, z13, r1, r2]; (repeat (first | refine ⟨by omega, ?_⟩ | refine ⟨True.intro, ?_⟩)))))
     refine ⟨⟨i + 1, by omega, h2⟩, by simp only []; omega, ?_⟩
     refine Weak.list ?_ ?_; (all_goals simp (disch := omega) only [AllF, AllL, x11, j11, z11, exists_eq_left', go_sem, seval, ruleD, z13, r1, r2]); (all_goals (repeat' (with_reducible apply And.intro))); (all_goals try (first | exact q9 rfl | (refine q12 ?_; omega) | (refine q9 ?_; simp; done)))
   ·have q1 : ((x.length : Int) != (y.length : Int)) = true := x14 (by omega)
    rw [show eqRR x y = false from q33 hxy, Bool.false_and] at h2
    subst h2
    (repeat (first | apply j0 | refine q8 rfl ?_ | refine z8 rfl ?_ | apply x7 | (refine j4 fun K hK => ?_) | (refine x5 fun K hK => ?_) | ((first | apply j6 | apply z7 | ((first | refine x4 (hK _ ?_) | refine x6 (hK _ _ j5 ?_)); clear hK K)); (first | show AWP _ _ _ _ _ | ((try simp only [j7]); first | show loopQ _ _ _ _ _ _ | show cutQ _ _ _ _ | show AWP _ _ _ _ _))) | ((first | refine x8 [] rfl ?_ | refine j8 [] rfl ?_); simp (disch := omega) only [go_sem, seval, ruleD, z13, r1, r2, q1]; (repeat (first | refine ⟨by omega, ?_⟩ | refine ⟨True.intro, ?_⟩)))))
    refine q10 ⟨_, ?_, rfl⟩; rw [Tryz.results32]; simp (disch := omega) only [ResVars, ResVar, ptrLoc, go_sem, seval, ruleD, z13, r1, r2, q1]
  ·rw [x21 (by omega)] at h2
   subst h2
   (repeat (first | apply j0 | refine q8 rfl ?_ | refine z8 rfl ?_ | apply x7 | (refine j4 fun K hK => ?_) | (refine x5 fun K hK => ?_) | ((first | apply j6 | apply z7 | ((first | refine x4 (hK _ ?_) | refine x6 (hK _ _ j5 ?_)); clear hK K)); (first | show AWP _ _ _ _ _ | ((try simp only [j7]); first | show loopQ _ _ _ _ _ _ | show cutQ _ _ _ _ | show AWP _ _ _ _ _))) | ((first | refine x8 [] rfl ?_ | refine j8 [] rfl ?_); simp (disch := omega) only [go_sem, seval, ruleD, z13]; (repeat (first | refine ⟨by omega, ?_⟩ | refine ⟨True.intro, ?_⟩)))))
   refine q10 ⟨_, ?_, rfl⟩; rw [Tryz.results32]; simp (disch := omega) only [ResVars, ResVar, ptrLoc, go_sem, seval, ruleD, z13]
 ·rw [q33 hn]
  have q : ((a.length : Int) != (b.length : Int)) = true := x14 (by omega)
  refine z12 Tryz.func32 rfl (by decide +kernel) (by rw [Tryz.ntmps32]; simp) ?_; rw [Tryz.ntmps32]; simp only [frOf]
  (repeat (first | apply j0 | refine q8 rfl ?_ | refine z8 rfl ?_ | apply x7 | (refine j4 fun K hK => ?_) | (refine x5 fun K hK => ?_) | ((first | apply j6 | apply z7 | ((first | refine x4 (hK _ ?_) | refine x6 (hK _ _ j5 ?_)); clear hK K)); (first | show AWP _ _ _ _ _ | ((try simp only [j7]); first | show loopQ _ _ _ _ _ _ | show cutQ _ _ _ _ | show AWP _ _ _ _ _))) | ((first | refine x8 [] rfl ?_ | refine j8 [] rfl ?_); simp (disch := omega) only [go_sem, seval, ruleD, z13, q]; (repeat (first | refine ⟨by omega, ?_⟩ | refine ⟨True.intro, ?_⟩)))))
  refine q10 ⟨_, ?_, rfl⟩; rw [Tryz.results32]; simp (disch := omega) only [ResVars, ResVar, ptrLoc, go_sem, seval, ruleD, z13, q]
def por8A (a b : List (List Port)) (R : Bool) (s : {i : Nat // i ≤ a.length ∧ allF (fun i => eqPP (a.getD i []) (b.getD i [])) a.length i = R}) : ASt :=
 ⟨[(5, .p (.d (.v (.int .i64 (s.val : Int))))), (3, .p (.d (.bx [.sl 1 b.length (rowPP b)]))), (2, .p (.d (.bx [.sl 1 a.length (rowPP a)])))], []⟩
def por8B (a b : List (List Port)) (x y : List Port) (i : Nat) (Q : Bool) (s : {k : Nat // k ≤ x.length ∧ allF (fun k => x.getD k p0 == y.getD k p0) x.length k = Q}) : ASt :=
 ⟨[(6, .p (.d (.v (.int .i64 (s.val : Int))))), (5, .p (.d (.v (.int .i64 (i : Int))))), (3, .p (.d (.bx [.sl 1 b.length (rowPP b)]))), (2, .p (.d (.bx [.sl 1 a.length (rowPP a)])))], []⟩
set_option maxRecDepth 100000 in
set_option maxHeartbeats 4000000 in
theorem q174 (a b : List (List Port)) (ha : small a) (hb : small b) : ACalls Tryz.prog 37 [.agg [.sl 1 a.length (rowPP a)], .agg [.sl 1 b.length (rowPP b)]] (· = [.d (.v (.bool (eqBy eqPP [] a b)))]) := by
 have hs := ha.1
 have hs' := hb.1
 by_cases hn : a.length = b.length
 ·rw [z33 hn]
  have q0 : ((a.length : Int) != (b.length : Int)) = false := x16 (by omega)
  generalize hR : allF (fun i => eqPP (a.getD i []) (b.getD i [])) a.length 0 = R
  refine z12 Tryz.func37 rfl (by decide +kernel) (by rw [Tryz.ntmps37]; simp) ?_; rw [Tryz.ntmps37]; simp only [frOf]
  (repeat (first | apply j0 | refine q8 rfl ?_ | refine z8 rfl ?_ | apply x7 | (refine j4 fun K hK => ?_) | (refine x5 fun K hK => ?_) | ((first | apply j6 | apply z7 | ((first | refine x4 (hK _ ?_) | refine x6 (hK _ _ j5 ?_)); clear hK K)); (first | show AWP _ _ _ _ _ | ((try simp only [j7]); first | show loopQ _ _ _ _ _ _ | show cutQ _ _ _ _ | show AWP _ _ _ _ _))) | ((first | refine x8 [] rfl ?_ | refine j8 [] rfl ?_); simp (disch := omega) only [go_sem, seval, portD, j16, q0]; (repeat (first | refine ⟨by omega, ?_⟩ | refine ⟨True.intro, ?_⟩)))))
  refine x13 (por8A a b R) (fun s => a.length - s.val) ⟨0, Nat.zero_le _, hR⟩ ?_ (fun s => ?_)
  ·unfold por8A
   refine Weak.list ?_ ?_; (all_goals simp (disch := omega) only [AllF, AllL, x11, j11, z11, exists_eq_left', go_sem, seval, portD, j16]); (all_goals (repeat' (with_reducible apply And.intro))); (all_goals try (first | exact q9 rfl | (refine q12 ?_; omega) | (refine q9 ?_; simp; done)))
  obtain ⟨i, hi, h2⟩ := s
  unfold por8A
  simp only [] at hi h2 ⊢
  by_cases h : i < a.length
  ·rw [z21 h] at h2
   have r1 := q26 a i
   have r2 := q26 b i
   have l1 := z26 ha i
   have l2 := z26 hb i
   try simp only [] at h2
   generalize a.getD i [] = x at h2 r1 l1
   generalize b.getD i [] = y at h2 r2 l2
   by_cases hxy : x.length = y.length
   ·have q1 : ((x.length : Int) != (y.length : Int)) = false := x16 (by omega)
    have eQ : eqPP x y = allF (fun k => x.getD k p0 == y.getD k p0) x.length 0 := z33 hxy
    generalize eqPP x y = Q at h2 eQ
    (repeat (first | apply j0 | refine q8 rfl ?_ | refine z8 rfl ?_ | apply x7 | (refine j4 fun K hK => ?_) | (refine x5 fun K hK => ?_) | ((first | apply j6 | apply z7 | ((first | refine x4 (hK _ ?_) | refine x6 (hK _ _ j5 ?_)); clear hK K)); (first | show AWP _ _ _ _ _ | ((try simp only [j7]); first | show loopQ _ _ _ _ _ _ | show cutQ _ _ _ _ | show AWP _ _ _ _ _))) | ((first | refine x8 [] rfl ?_ | refine j8 [] rfl ?_); simp (disch := omega) only [go_sem, seval, portD, j16, r1, r2, q1]; (repeat (first | refine ⟨by omega, ?_⟩ | refine ⟨True.intro, ?_⟩)))))
    refine x13 (por8B a b x y i Q) (fun s => x.length - s.val) ⟨0, Nat.zero_le _, eQ.symm⟩ ?_ (fun s => ?_)
    ·unfold por8B
     refine Weak.list ?_ ?_; (all_goals simp (disch := omega) only [AllF, AllL, x11, j11, z11, exists_eq_left', go_sem, seval, portD, j16, r1, r2, q1]); (all_goals (repeat' (with_reducible apply And.intro))); (all_goals try (first | exact q9 rfl | (refine q12 ?_; omega) | (refine q9 ?_; simp; done)))
    obtain ⟨k, hk, h3⟩ := s
    unfold por8B
    simp only [] at hk h3 ⊢
    by_cases hkl : k < x.length
    ·rw [z21 hkl] at h3
     have r3 := q32 x k
     have r4 := q32 y k
     try simp only [] at h3
     generalize x.getD k p0 = u at h3 r3
     generalize y.getD k p0 = v at h3 r4
     have e := j169 u v
     generalize (u == v) = c at h3 e
     cases c
     ·rw [Bool.false_and] at h3
      subst h3
      rw [Bool.false_and] at h2
      subst h2
      (repeat (first | apply j0 | refine q8 rfl ?_ | refine z8 rfl ?_ | apply x7 | (refine j4 fun K hK => ?_) | (refine x5 fun K hK => ?_) | ((first | apply j6 | apply z7 | ((first | refine x4 (hK _ ?_) | refine x6 (hK _ _ j5 ?_)); clear hK K)); (first | show AWP _ _ _ _ _ | ((try simp only [j7]); first | show loopQ _ _ _ _ _ _ | show cutQ _ _ _ _ | show AWP _ _ _ _ _))) | ((first | refine x8 [] rfl ?_ | refine j8 [] rfl ?_); simp (disch := omega) only [go_sem, seval, portD, j16, r1, r2, r3, r4, e]; (repeat (first | refine ⟨by omega, ?_⟩ | refine ⟨True.intro, ?_⟩)))))
      refine q10 ⟨_, ?_, rfl⟩; rw [Tryz.results37]; simp (disch := omega) only [ResVars, ResVar, ptrLoc, go_sem, seval, portD, j16, r1, r2, r3, r4, e]
     ·rw [Bool.true_and] at h3
      (repeat (first | apply j0 | refine q8 rfl ?_ | refine z8 rfl ?_ | apply x7 | (refine j4 fun K hK => ?_) | (refine x5 fun K hK => ?_) | ((first | apply j6 | apply z7 | ((first | refine x4 (hK _ ?_) | refine x6 (hK _ _ j5 ?_)); clear hK K)); (first | show AWP _ _ _ _ _ | ((try simp only [j7]); first | show loopQ _ _ _ _ _ _ | show cutQ _ _ _ _ | show AWP _ _ _ _ _))) | ((first | refine x8 [] rfl ?_ | refine j8 [] rfl ?_); simp (disch := omega) only [go_sem, seval, portD, j16, r1, r2, r3, r4, e]; (repeat (first | refine ⟨by omega, ?_⟩ | refine ⟨True.intro, ?_⟩)))))
      refine ⟨⟨k + 1, by omega, h3⟩, by simp only []; omega, ?_⟩
      refine Weak.list ?_ ?_; (all_goals simp (disch := omega) only [AllF, AllL, x11, j11, z11, exists_eq_left', go_sem, seval, portD, j16, r1, r2, r3, r4, e]); (all_goals (repeat' (with_reducible apply And.intro))); (all_goals try (first | exact q9 rfl | (refine q12 ?_; omega) | (refine q9 ?_; simp; done)))
    ·rw [x21 (by omega)] at h3
     subst h3
     rw [Bool.true_and] at h2
     (repeat (first | apply j0 | refine q8 rfl ?_ | refine z8 rfl ?_ | apply x7 | (refine j4 fun K hK => ?_) | (refine x5 fun K hK => ?_) | ((first | apply j6 | apply z7 | ((first | refine x4 (hK _ ?_) | refine x6 (hK _ _ j5 ?_)); clear hK K)); (first | show AWP _ _ _ _ _ | ((try simp only [j7]); first | show loopQ _ _ _ _ _ _ | show cutQ _ _ _ _ | show AWP _ _ _ _ _))) | ((first | refine x8 [] rfl ?_ | refine j8 [] rfl ?_); simp (disch := omega) only [go_sem, seval, portD, j16, r1, r2]; (repeat (first | refine ⟨by omega, ?_⟩ | refine ⟨True.intro, ?_⟩)))))
     refine ⟨⟨i + 1, by omega, h2⟩, by simp only []; omega, ?_⟩
     refine Weak.list ?_ ?_; (all_goals simp (disch := omega) only [AllF, AllL, x11, j11, z11, exists_eq_left', go_sem, seval, portD, j16, r1, r2]); (all_goals (repeat' (with_reducible apply And.intro))); (all_goals try (first | exact q9 rfl | (refine q12 ?_; omega) | (refine q9 ?_; simp; done)))
   ·have q1 : ((x.length : Int) != (y.length : Int)) = true := x14 (by omega)
    rw [show eqPP x y = false from q33 hxy, Bool.false_and] at h2
    subst h2
    (repeat (first | apply j0 | refine q8 rfl ?_ | refine z8 rfl ?_ | apply x7 | (refine j4 fun K hK => ?_) | (refine x5 fun K hK => ?_) | ((first | apply j6 | apply z7 | ((first | refine x4 (hK _ ?_) | refine x6 (hK _ _ j5 ?_)); clear hK K)); (first | show AWP _ _ _ _ _ | ((try simp only [j7]); first | show loopQ _ _ _ _ _ _ | show cutQ _ _ _ _ | show AWP _ _ _ _ _))) | ((first | refine x8 [] rfl ?_ | refine j8 [] rfl ?_); simp (disch := omega) only [go_sem, seval, portD, j16, r1, r2, q1]; (repeat (first | refine ⟨by omega, ?_⟩ | refine ⟨True.intro, ?_⟩)))))
    refine q10 ⟨_, ?_, rfl⟩; rw [Tryz.results37]; simp (disch := omega) only [ResVars, ResVar, ptrLoc, go_sem, seval, portD, j16, r1, r2, q1]
  ·rw [x21 (by omega)] at h2
   subst h2
   (repeat (first | apply j0 | refine q8 rfl ?_ | refine z8 rfl ?_ | apply x7 | (refine j4 fun K hK => ?_) | (refine x5 fun K hK => ?_) | ((first | apply j6 | apply z7 | ((first | refine x4 (hK _ ?_) | refine x6 (hK _ _ j5 ?_)); clear hK K)); (first | show AWP _ _ _ _ _ | ((try simp only [j7]); first | show loopQ _ _ _ _ _ _ | show cutQ _ _ _ _ | show AWP _ _ _ _ _))) | ((first | refine x8 [] rfl ?_ | refine j8 [] rfl ?_); simp (disch := omega) only [go_sem, seval, portD, j16]; (repeat (first | refine ⟨by omega, ?_⟩ | refine ⟨True.intro, ?_⟩)))))
   refine q10 ⟨_, ?_, rfl⟩; rw [Tryz.results37]; simp (disch := omega) only [ResVars, ResVar, ptrLoc, go_sem, seval, portD, j16]
 ·rw [q33 hn]
  have q : ((a.length : Int) != (b.length : Int)) = true := x14 (by omega)
  refine z12 Tryz.func37 rfl (by decide +kernel) (by rw [Tryz.ntmps37]; simp) ?_; rw [Tryz.ntmps37]; simp only [frOf]
  (repeat (first | apply j0 | refine q8 rfl ?_ | refine z8 rfl ?_ | apply x7 | (refine j4 fun K hK => ?_) | (refine x5 fun K hK => ?_) | ((first | apply j6 | apply z7 | ((first | refine x4 (hK _ ?_) | refine x6 (hK _ _ j5 ?_)); clear hK K)); (first | show AWP _ _ _ _ _ | ((try simp only [j7]); first | show loopQ _ _ _ _ _ _ | show cutQ _ _ _ _ | show AWP _ _ _ _ _))) | ((first | refine x8 [] rfl ?_ | refine j8 [] rfl ?_); simp (disch := omega) only [go_sem, seval, portD, j16, q]; (repeat (first | refine ⟨by omega, ?_⟩ | refine ⟨True.intro, ?_⟩)))))
  refine q10 ⟨_, ?_, rfl⟩; rw [Tryz.results37]; simp (disch := omega) only [ResVars, ResVar, ptrLoc, go_sem, seval, portD, j16, q]
def sam8L (a b : Config) (t : Nat) (i : Nat) : ASt :=
 ⟨[(t, .p (.d (.v (.int .i64 (i : Int))))), (6, .loc 6 0), (5, .loc 5 0), (3, .p (.d (.bx (configD b)))), (2, .p (.d (.bx (configD a))))],
  [(6, .cells 81 [.p (.d (.v (.int .i64 b.po.tn))), .p (.d (.sl 2 b.po.peers.length (rowA b.po.peers))), .p (.d (.sl 3 b.po.ways.length (rowW b.po.ways)))]), (5, .cells 81 [.p (.d (.v (.int .i64 a.po.tn))), .p (.d (.sl 2 a.po.peers.length (rowA a.po.peers))), .p (.d (.sl 3 a.po.ways.length (rowW a.po.ways)))])]⟩
set_option maxRecDepth 100000 in
set_option maxHeartbeats 8000000 in
theorem Same8_c (a b : Config) (ha : a.small) (hb : b.small) : ACalls Tryz.prog 36 [.agg (configD a), .agg (configD b)] (· = [.d (.v (.bool (sameC a b)))]) := by
 have c1 := q174 a.tp b.tp ha.tp hb.tp
 have z1 := ha.po.1
 have z2 := ha.po.2
 have z3 := hb.po.1
 have z4 := hb.po.2
 have z5 := ha.tb
 have z6 := hb.tb
 have atA := ha.at
 have atB := hb.at
 have s0 : eqBy eqPP [] a.tp b.tp = false → sameC a b = false := fun h => by unfold sameC; rw [h]; rfl
 have s1 : a.po.tn ≠ b.po.tn → sameC a b = false := fun h => by unfold sameC; rw [show (a.po.tn == b.po.tn) = false from z16 h]; simp
 have s2 : eqBy (· == ·) (0, 0) a.po.peers b.po.peers = false → sameC a b = false := fun h => by unfold sameC; rw [h]; simp
 have s3 : eqBy (· == ·) w0 a.po.ways b.po.ways = false → sameC a b = false := fun h => by unfold sameC; rw [h]; simp
 have s4 : eqBy eqTT [] a.tb b.tb = false → sameC a b = false := fun h => by unfold sameC; rw [h]; simp
 have s5 : eqBy eqPP [] a.tp b.tp = true → a.po.tn = b.po.tn → eqBy (· == ·) (0, 0) a.po.peers b.po.peers = true → eqBy (· == ·) w0 a.po.ways b.po.ways = true → eqBy eqTT [] a.tb b.tb = true → sameC a b = true := fun h1 h2 h3 h4 h5 => by
  unfold sameC; rw [h1, h3, h4, h5, show (a.po.tn == b.po.tn) = true from q17 h2]; rfl
 cases hP : eqBy eqPP [] a.tp b.tp
 ·rw [s0 hP]
  rw [hP] at c1
  refine z12 Tryz.func36 rfl (by decide +kernel) (by rw [Tryz.ntmps36]; simp) ?_; rw [Tryz.ntmps36]; simp only [frOf]
  (repeat (first | apply j0 | refine q8 rfl ?_ | refine z8 rfl ?_ | apply x7 | (refine j4 fun K hK => ?_) | (refine x5 fun K hK => ?_) | ((first | apply j6 | apply z7 | ((first | refine x4 (hK _ ?_) | refine x6 (hK _ _ j5 ?_)); clear hK K)); (first | show AWP _ _ _ _ _ | ((try simp only [j7]); first | show loopQ _ _ _ _ _ _ | show cutQ _ _ _ _ | show AWP _ _ _ _ _))) | ((first | refine j10 rfl rfl rfl ?_ | refine q11 rfl rfl rfl ?_); simp (disch := omega) only [go_sem, seval, configD, topoD, policyD]; (first | refine ⟨_, c1, ?_⟩)) | ((first | refine x8 [] rfl ?_ | refine j8 [] rfl ?_); simp (disch := omega) only [go_sem, seval, configD, topoD, policyD]; (repeat (first | refine ⟨by omega, ?_⟩ | refine ⟨True.intro, ?_⟩)))))
  refine q10 ⟨_, ?_, rfl⟩; rw [Tryz.results36]; simp (disch := omega) only [ResVars, ResVar, ptrLoc, go_sem, seval, configD, topoD, policyD]
 rw [hP] at c1
 by_cases hT : a.po.tn = b.po.tn
 rotate_left
 ·rw [s1 hT]
  have q1 : (a.po.tn != b.po.tn) = true := x14 hT
  refine z12 Tryz.func36 rfl (by decide +kernel) (by rw [Tryz.ntmps36]; simp) ?_; rw [Tryz.ntmps36]; simp only [frOf]
  (repeat (first | apply j0 | refine q8 rfl ?_ | refine z8 rfl ?_ | apply x7 | (refine j4 fun K hK => ?_) | (refine x5 fun K hK => ?_) | ((first | apply j6 | apply z7 | ((first | refine x4 (hK _ ?_) | refine x6 (hK _ _ j5 ?_)); clear hK K)); (first | show AWP _ _ _ _ _ | ((try simp only [j7]); first | show loopQ _ _ _ _ _ _ | show cutQ _ _ _ _ | show AWP _ _ _ _ _))) | ((first | refine j10 rfl rfl rfl ?_ | refine q11 rfl rfl rfl ?_); simp (disch := omega) only [go_sem, seval, configD, topoD, policyD, q1]; (first | refine ⟨_, c1, ?_⟩)) | ((first | refine x8 [] rfl ?_ | refine j8 [] rfl ?_); simp (disch := omega) only [go_sem, seval, configD, topoD, policyD, q1]; (repeat (first | refine ⟨by omega, ?_⟩ | refine ⟨True.intro, ?_⟩)))))
  refine q10 ⟨_, ?_, rfl⟩; rw [Tryz.results36]; simp (disch := omega) only [ResVars, ResVar, ptrLoc, go_sem, seval, configD, topoD, policyD, q1]
 have q1 : (a.po.tn != b.po.tn) = false := x16 hT
 by_cases hA : a.po.peers.length = b.po.peers.length
 rotate_left
 ·rw [s2 (q33 hA)]
  have q2 : ((a.po.peers.length : Int) != (b.po.peers.length : Int)) = true := x14 (by omega)
  refine z12 Tryz.func36 rfl (by decide +kernel) (by rw [Tryz.ntmps36]; simp) ?_; rw [Tryz.ntmps36]; simp only [frOf]
  (repeat (first | apply j0 | refine q8 rfl ?_ | refine z8 rfl ?_ | apply x7 | (refine j4 fun K hK => ?_) | (refine x5 fun K hK => ?_) | ((first | apply j6 | apply z7 | ((first | refine x4 (hK _ ?_) | refine x6 (hK _ _ j5 ?_)); clear hK K)); (first | show AWP _ _ _ _ _ | ((try simp only [j7]); first | show loopQ _ _ _ _ _ _ | show cutQ _ _ _ _ | show AWP _ _ _ _ _))) | ((first | refine j10 rfl rfl rfl ?_ | refine q11 rfl rfl rfl ?_); simp (disch := omega) only [go_sem, seval, configD, topoD, policyD, q1, q2]; (first | refine ⟨_, c1, ?_⟩)) | ((first | refine x8 [] rfl ?_ | refine j8 [] rfl ?_); simp (disch := omega) only [go_sem, seval, configD, topoD, policyD, q1, q2]; (repeat (first | refine ⟨by omega, ?_⟩ | refine ⟨True.intro, ?_⟩)))))
  refine q10 ⟨_, ?_, rfl⟩; rw [Tryz.results36]; simp (disch := omega) only [ResVars, ResVar, ptrLoc, go_sem, seval, configD, topoD, policyD, q1, q2]
 have q2 : ((a.po.peers.length : Int) != (b.po.peers.length : Int)) = false := x16 (by omega)
 by_cases hW : a.po.ways.length = b.po.ways.length
 rotate_left
 ·rw [s3 (q33 hW)]
  have q3 : ((a.po.ways.length : Int) != (b.po.ways.length : Int)) = true := x14 (by omega)
  refine z12 Tryz.func36 rfl (by decide +kernel) (by rw [Tryz.ntmps36]; simp) ?_; rw [Tryz.ntmps36]; simp only [frOf]
  (repeat (first | apply j0 | refine q8 rfl ?_ | refine z8 rfl ?_ | apply x7 | (refine j4 fun K hK => ?_) | (refine x5 fun K hK => ?_) | ((first | apply j6 | apply z7 | ((first | refine x4 (hK _ ?_) | refine x6 (hK _ _ j5 ?_)); clear hK K)); (first | show AWP _ _ _ _ _ | ((try simp only [j7]); first | show loopQ _ _ _ _ _ _ | show cutQ _ _ _ _ | show AWP _ _ _ _ _))) | ((first | refine j10 rfl rfl rfl ?_ | refine q11 rfl rfl rfl ?_); simp (disch := omega) only [go_sem, seval, configD, topoD, policyD, q1, q2, q3]; (first | refine ⟨_, c1, ?_⟩)) | ((first | refine x8 [] rfl ?_ | refine j8 [] rfl ?_); simp (disch := omega) only [go_sem, seval, configD, topoD, policyD, q1, q2, q3]; (repeat (first | refine ⟨by omega, ?_⟩ | refine ⟨True.intro, ?_⟩)))))
  refine q10 ⟨_, ?_, rfl⟩; rw [Tryz.results36]; simp (disch := omega) only [ResVars, ResVar, ptrLoc, go_sem, seval, configD, topoD, policyD, q1, q2, q3]
 have q3 : ((a.po.ways.length : Int) != (b.po.ways.length : Int)) = false := x16 (by omega)
 by_cases hB : a.tb.length = b.tb.length
 rotate_left
 ·rw [s4 (q33 hB)]
  have q4 : ((a.tb.length : Int) != (b.tb.length : Int)) = true := x14 (by omega)
  refine z12 Tryz.func36 rfl (by decide +kernel) (by rw [Tryz.ntmps36]; simp) ?_; rw [Tryz.ntmps36]; simp only [frOf]
  (repeat (first | apply j0 | refine q8 rfl ?_ | refine z8 rfl ?_ | apply x7 | (refine j4 fun K hK => ?_) | (refine x5 fun K hK => ?_) | ((first | apply j6 | apply z7 | ((first | refine x4 (hK _ ?_) | refine x6 (hK _ _ j5 ?_)); clear hK K)); (first | show AWP _ _ _ _ _ | ((try simp only [j7]); first | show loopQ _ _ _ _ _ _ | show cutQ _ _ _ _ | show AWP _ _ _ _ _))) | ((first | refine j10 rfl rfl rfl ?_ | refine q11 rfl rfl rfl ?_); simp (disch := omega) only [go_sem, seval, configD, topoD, policyD, q1, q2, q3, q4]; (first | refine ⟨_, c1, ?_⟩)) | ((first | refine x8 [] rfl ?_ | refine j8 [] rfl ?_); simp (disch := omega) only [go_sem, seval, configD, topoD, policyD, q1, q2, q3, q4]; (repeat (first | refine ⟨by omega, ?_⟩ | refine ⟨True.intro, ?_⟩)))))
  refine q10 ⟨_, ?_, rfl⟩; rw [Tryz.results36]; simp (disch := omega) only [ResVars, ResVar, ptrLoc, go_sem, seval, configD, topoD, policyD, q1, q2, q3, q4]
 have q4 : ((a.tb.length : Int) != (b.tb.length : Int)) = false := x16 (by omega)
 rw [z33 hA] at s2 s5
 rw [z33 hW] at s3 s5
 rw [z33 hB] at s4 s5
 generalize hQ1 : allF (fun i => a.po.peers.getD i (0, 0) == b.po.peers.getD i (0, 0)) a.po.peers.length 0 = Q1 at s2 s5
 generalize hQ2 : allF (fun i => a.po.ways.getD i w0 == b.po.ways.getD i w0) a.po.ways.length 0 = Q2 at s3 s5
 generalize hQ3 : allF (fun i => eqTT (a.tb.getD i []) (b.tb.getD i [])) a.tb.length 0 = Q3 at s4 s5
 generalize sameC a b = R at s2 s3 s4 s5
 refine z12 Tryz.func36 rfl (by decide +kernel) (by rw [Tryz.ntmps36]; simp) ?_; rw [Tryz.ntmps36]; simp only [frOf]
 (repeat (first | apply j0 | refine q8 rfl ?_ | refine z8 rfl ?_ | apply x7 | (refine j4 fun K hK => ?_) | (refine x5 fun K hK => ?_) | ((first | apply j6 | apply z7 | ((first | refine x4 (hK _ ?_) | refine x6 (hK _ _ j5 ?_)); clear hK K)); (first | show AWP _ _ _ _ _ | ((try simp only [j7]); first | show loopQ _ _ _ _ _ _ | show cutQ _ _ _ _ | show AWP _ _ _ _ _))) | ((first | refine j10 rfl rfl rfl ?_ | refine q11 rfl rfl rfl ?_); simp (disch := omega) only [go_sem, seval, configD, topoD, policyD, q1, q2, q3, q4]; (first | refine ⟨_, c1, ?_⟩)) | ((first | refine x8 [] rfl ?_ | refine j8 [] rfl ?_); simp (disch := omega) only [go_sem, seval, configD, topoD, policyD, q1, q2, q3, q4]; (repeat (first | refine ⟨by omega, ?_⟩ | refine ⟨True.intro, ?_⟩)))))
 refine x13 (fun s : {i : Nat // i ≤ a.po.peers.length ∧ allF (fun i => a.po.peers.getD i (0, 0) == b.po.peers.getD i (0, 0)) a.po.peers.length i = Q1} => sam8L a b 7 s.val) (fun s => a.po.peers.length - s.val) ⟨0, Nat.zero_le _, hQ1⟩ ?_ (fun s => ?_)
 ·unfold sam8L
  refine Weak.list ?_ ?_; (all_goals simp (disch := omega) only [AllF, AllL, x11, j11, z11, exists_eq_left', go_sem, seval, configD, topoD, policyD]); (all_goals (repeat' (with_reducible apply And.intro))); (all_goals try (first | exact q9 rfl | (refine q12 ?_; omega) | (refine q9 ?_; simp; done)))
 obtain ⟨i, hi, h2⟩ := s
 unfold sam8L
 simp only [] at hi h2 ⊢
 by_cases h : i < a.po.peers.length
 ·rw [z21 h] at h2
  have r1 := q73 a.po.peers i
  have r2 := q73 b.po.peers i
  try simp only [] at h2
  generalize a.po.peers.getD i (0, 0) = x at h2 r1
  generalize b.po.peers.getD i (0, 0) = y at h2 r2
  have e := x169 x y
  generalize (x == y) = c at h2 e
  cases c
  ·rw [Bool.false_and] at h2
   rw [s2 h2.symm]
   (repeat (first | apply j0 | refine q8 rfl ?_ | refine z8 rfl ?_ | apply x7 | (refine j4 fun K hK => ?_) | (refine x5 fun K hK => ?_) | ((first | apply j6 | apply z7 | ((first | refine x4 (hK _ ?_) | refine x6 (hK _ _ j5 ?_)); clear hK K)); (first | show AWP _ _ _ _ _ | ((try simp only [j7]); first | show loopQ _ _ _ _ _ _ | show cutQ _ _ _ _ | show AWP _ _ _ _ _))) | ((first | refine x8 [] rfl ?_ | refine j8 [] rfl ?_); simp (disch := omega) only [go_sem, seval, configD, topoD, policyD, r1, r2, e, pairD, eqA2]; (repeat (first | refine ⟨by omega, ?_⟩ | refine ⟨True.intro, ?_⟩)))))
   refine q10 ⟨_, ?_, rfl⟩; rw [Tryz.results36]; simp (disch := omega) only [ResVars, ResVar, ptrLoc, go_sem, seval, configD, topoD, policyD, r1, r2, e, pairD, eqA2]
  ·rw [Bool.true_and] at h2
   (repeat (first | apply j0 | refine q8 rfl ?_ | refine z8 rfl ?_ | apply x7 | (refine j4 fun K hK => ?_) | (refine x5 fun K hK => ?_) | ((first | apply j6 | apply z7 | ((first | refine x4 (hK _ ?_) | refine x6 (hK _ _ j5 ?_)); clear hK K)); (first | show AWP _ _ _ _ _ | ((try simp only [j7]); first | show loopQ _ _ _ _ _ _ | show cutQ _ _ _ _ | show AWP _ _ _ _ _))) | ((first | refine x8 [] rfl ?_ | refine j8 [] rfl ?_); simp (disch := omega) only [go_sem, seval, configD, topoD, policyD, r1, r2, e, pairD, eqA2]; (repeat (first | refine ⟨by omega, ?_⟩ | refine ⟨True.intro, ?_⟩)))))
   refine ⟨⟨i + 1, by omega, h2⟩, by simp only []; omega, ?_⟩
   refine Weak.list ?_ ?_; (all_goals simp (disch := omega) only [AllF, AllL, x11, j11, z11, exists_eq_left', go_sem, seval, configD, topoD, policyD, r1, r2, e, pairD, eqA2]); (all_goals (repeat' (with_reducible apply And.intro))); (all_goals try (first | exact q9 rfl | (refine q12 ?_; omega) | (refine q9 ?_; simp; done)))
 rw [x21 (by omega)] at h2
 subst h2
 (repeat (first | apply j0 | refine q8 rfl ?_ | refine z8 rfl ?_ | apply x7 | (refine j4 fun K hK => ?_) | (refine x5 fun K hK => ?_) | ((first | apply j6 | apply z7 | ((first | refine x4 (hK _ ?_) | refine x6 (hK _ _ j5 ?_)); clear hK K)); (first | show AWP _ _ _ _ _ | ((try simp only [j7]); first | show loopQ _ _ _ _ _ _ | show cutQ _ _ _ _ | show AWP _ _ _ _ _))) | ((first | refine x8 [] rfl ?_ | refine j8 [] rfl ?_); simp (disch := omega) only [go_sem, seval, configD, topoD, policyD]; (repeat (first | refine ⟨by omega, ?_⟩ | refine ⟨True.intro, ?_⟩)))))
 refine x13 (fun s : {i : Nat // i ≤ a.po.ways.length ∧ allF (fun i => a.po.ways.getD i w0 == b.po.ways.getD i w0) a.po.ways.length i = Q2} => sam8L a b 8 s.val) (fun s => a.po.ways.length - s.val) ⟨0, Nat.zero_le _, hQ2⟩ ?_ (fun s => ?_)
 ·unfold sam8L
  refine Weak.list ?_ ?_; (all_goals simp (disch := omega) only [AllF, AllL, x11, j11, z11, exists_eq_left', go_sem, seval, configD, topoD, policyD]); (all_goals (repeat' (with_reducible apply And.intro))); (all_goals try (first | exact q9 rfl | (refine q12 ?_; omega) | (refine q9 ?_; simp; done)))
 obtain ⟨j, hj, h3⟩ := s
 unfold sam8L
 simp only [] at hj h3 ⊢
 by_cases h' : j < a.po.ways.length
 ·rw [z21 h'] at h3
  have r1 := j72 a.po.ways j
  have r2 := j72 b.po.ways j
  try simp only [] at h3
  generalize a.po.ways.getD j w0 = x at h3 r1
  generalize b.po.ways.getD j w0 = y at h3 r2
  have e := eqI_way x y
  generalize (x == y) = c at h3 e
  cases c
  ·rw [Bool.false_and] at h3
   rw [s3 h3.symm]
   (repeat (first | apply j0 | refine q8 rfl ?_ | refine z8 rfl ?_ | apply x7 | (refine j4 fun K hK => ?_) | (refine x5 fun K hK => ?_) | ((first | apply j6 | apply z7 | ((first | refine x4 (hK _ ?_) | refine x6 (hK _ _ j5 ?_)); clear hK K)); (first | show AWP _ _ _ _ _ | ((try simp only [j7]); first | show loopQ _ _ _ _ _ _ | show cutQ _ _ _ _ | show AWP _ _ _ _ _))) | ((first | refine x8 [] rfl ?_ | refine j8 [] rfl ?_); simp (disch := omega) only [go_sem, seval, configD, topoD, policyD, r1, r2, e, wayD, x52]; (repeat (first | refine ⟨by omega, ?_⟩ | refine ⟨True.intro, ?_⟩)))))
   refine q10 ⟨_, ?_, rfl⟩; rw [Tryz.results36]; simp (disch := omega) only [ResVars, ResVar, ptrLoc, go_sem, seval, configD, topoD, policyD, r1, r2, e, wayD, x52]
  ·rw [Bool.true_and] at h3
   (repeat (first | apply j0 | refine q8 rfl ?_ | refine z8 rfl ?_ | apply x7 | (refine j4 fun K hK => ?_) | (refine x5 fun K hK => ?_) | ((first | apply j6 | apply z7 | ((first | refine x4 (hK _ ?_) | refine x6 (hK _ _ j5 ?_)); clear hK K)); (first | show AWP _ _ _ _ _ | ((try simp only [j7]); first | show loopQ _ _ _ _ _ _ | show cutQ _ _ _ _ | show AWP _ _ _ _ _))) | ((first | refine x8 [] rfl ?_ | refine j8 [] rfl ?_); simp (disch := omega) only [go_sem, seval, configD, topoD, policyD, r1, r2, e, wayD, x52]; (repeat (first | refine ⟨by omega, ?_⟩ | refine ⟨True.intro, ?_⟩)))))
   refine ⟨⟨j + 1, by omega, h3⟩, by simp only []; omega, ?_⟩
   refine Weak.list ?_ ?_; (all_goals simp (disch := omega) only [AllF, AllL, x11, j11, z11, exists_eq_left', go_sem, seval, configD, topoD, policyD, r1, r2, e, wayD, x52]); (all_goals (repeat' (with_reducible apply And.intro))); (all_goals try (first | exact q9 rfl | (refine q12 ?_; omega) | (refine q9 ?_; simp; done)))
 rw [x21 (by omega)] at h3
 subst h3
 (repeat (first | apply j0 | refine q8 rfl ?_ | refine z8 rfl ?_ | apply x7 | (refine j4 fun K hK => ?_) | (refine x5 fun K hK => ?_) | ((first | apply j6 | apply z7 | ((first | refine x4 (hK _ ?_) | refine x6 (hK _ _ j5 ?_)); clear hK K)); (first | show AWP _ _ _ _ _ | ((try simp only [j7]); first | show loopQ _ _ _ _ _ _ | show cutQ _ _ _ _ | show AWP _ _ _ _ _))) | ((first | refine x8 [] rfl ?_ | refine j8 [] rfl ?_); simp (disch := omega) only [go_sem, seval, configD, topoD, policyD]; (repeat (first | refine ⟨by omega, ?_⟩ | refine ⟨True.intro, ?_⟩)))))
 refine x13 (fun s : {i : Nat // i ≤ a.tb.length ∧ allF (fun i => eqTT (a.tb.getD i []) (b.tb.getD i [])) a.tb.length i = Q3} => sam8L a b 9 s.val) (fun s => a.tb.length - s.val) ⟨0, Nat.zero_le _, hQ3⟩ ?_ (fun s => ?_)
 ·unfold sam8L
  refine Weak.list ?_ ?_; (all_goals simp (disch := omega) only [AllF, AllL, x11, j11, z11, exists_eq_left', go_sem, seval, configD, topoD, policyD]); (all_goals (repeat' (with_reducible apply And.intro))); (all_goals try (first | exact q9 rfl | (refine q12 ?_; omega) | (refine q9 ?_; simp; done)))
 obtain ⟨k, hk, h4⟩ := s
 unfold sam8L
 simp only [] at hk h4 ⊢
 by_cases h'' : k < a.tb.length
 ·rw [z21 h''] at h4
  have r1 := j59 a.tb k
  have r2 := j59 b.tb k
  have g1 := atA k
  have g2 := atB k
  try simp only [] at h4
  generalize a.tb.getD k [] = x at h4 r1 g1
  generalize b.tb.getD k [] = y at h4 r2 g2
  have cR := j173 x y g1 g2
  have gx := g1.1
  have gy := g2.1
  rw [show eqBy eqRR [] x y = eqTT x y from rfl] at cR
  generalize eqTT x y = c at h4 cR
  cases c
  ·rw [Bool.false_and] at h4
   rw [s4 h4.symm]
   (repeat (first | apply j0 | refine q8 rfl ?_ | refine z8 rfl ?_ | apply x7 | (refine j4 fun K hK => ?_) | (refine x5 fun K hK => ?_) | ((first | apply j6 | apply z7 | ((first | refine x4 (hK _ ?_) | refine x6 (hK _ _ j5 ?_)); clear hK K)); (first | show AWP _ _ _ _ _ | ((try simp only [j7]); first | show loopQ _ _ _ _ _ _ | show cutQ _ _ _ _ | show AWP _ _ _ _ _))) | ((first | refine j10 rfl rfl rfl ?_ | refine q11 rfl rfl rfl ?_); simp (disch := omega) only [go_sem, seval, configD, topoD, policyD, r1, r2]; (first | refine ⟨_, cR, ?_⟩)) | ((first | refine x8 [] rfl ?_ | refine j8 [] rfl ?_); simp (disch := omega) only [go_sem, seval, configD, topoD, policyD, r1, r2]; (repeat (first | refine ⟨by omega, ?_⟩ | refine ⟨True.intro, ?_⟩)))))
   refine q10 ⟨_, ?_, rfl⟩; rw [Tryz.results36]; simp (disch := omega) only [ResVars, ResVar, ptrLoc, go_sem, seval, configD, topoD, policyD, r1, r2]
  ·rw [Bool.true_and] at h4
   (repeat (first | apply j0 | refine q8 rfl ?_ | refine z8 rfl ?_ | apply x7 | (refine j4 fun K hK => ?_) | (refine x5 fun K hK => ?_) | ((first | apply j6 | apply z7 | ((first | refine x4 (hK _ ?_) | refine x6 (hK _ _ j5 ?_)); clear hK K)); (first | show AWP _ _ _ _ _ | ((try simp only [j7]); first | show loopQ _ _ _ _ _ _ | show cutQ _ _ _ _ | show AWP _ _ _ _ _))) | ((first | refine j10 rfl rfl rfl ?_ | refine q11 rfl rfl rfl ?_); simp (disch := omega) only [go_sem, seval, configD, topoD, policyD, r1, r2]; (first | refine ⟨_, cR, ?_⟩)) | ((first | refine x8 [] rfl ?_ | refine j8 [] rfl ?_); simp (disch := omega) only [go_sem, seval, configD, topoD, policyD, r1, r2]; (repeat (first | refine ⟨by omega, ?_⟩ | refine ⟨True.intro, ?_⟩)))))
   refine ⟨⟨k + 1, by omega, h4⟩, by simp only []; omega, ?_⟩
   refine Weak.list ?_ ?_; (all_goals simp (disch := omega) only [AllF, AllL, x11, j11, z11, exists_eq_left', go_sem, seval, configD, topoD, policyD, r1, r2]); (all_goals (repeat' (with_reducible apply And.intro))); (all_goals try (first | exact q9 rfl | (refine q12 ?_; omega) | (refine q9 ?_; simp; done)))
 rw [x21 (by omega)] at h4
 subst h4
 rw [s5 hP hT rfl rfl rfl]
 (repeat (first | apply j0 | refine q8 rfl ?_ | refine z8 rfl ?_ | apply x7 | (refine j4 fun K hK => ?_) | (refine x5 fun K hK => ?_) | ((first | apply j6 | apply z7 | ((first | refine x4 (hK _ ?_) | refine x6 (hK _ _ j5 ?_)); clear hK K)); (first | show AWP _ _ _ _ _ | ((try simp only [j7]); first | show loopQ _ _ _ _ _ _ | show cutQ _ _ _ _ | show AWP _ _ _ _ _))) | ((first | refine x8 [] rfl ?_ | refine j8 [] rfl ?_); simp (disch := omega) only [go_sem, seval, configD, topoD, policyD]; (repeat (first | refine ⟨by omega, ?_⟩ | refine ⟨True.intro, ?_⟩)))))
 refine q10 ⟨_, ?_, rfl⟩; rw [Tryz.results36]; simp (disch := omega) only [ResVars, ResVar, ptrLoc, go_sem, seval, configD, topoD, policyD]
end Go.Proofs.YtemcdefpihkfpaaGreat
namespace Go.Proofs.YtemcdefpihkfpaaGreat
open Go.Proofs.YtemcdefpihkfpaaGreat.AL
end Go.Proofs.YtemcdefpihkfpaaGreat
namespace Go.Proofs.YtemcdefpihkfpaaGreat
open Go Go.Proofs.YtemcdefpihkfpaaGreat.AL
def lineK : Config := ⟨[[⟨1, 0, 0, 0, 0⟩, ⟨2, 0, 1, 0, 1⟩], [⟨2, 0, 0, 1, 1⟩, ⟨1, 0, 0, 0, 0⟩]], ⟨1, [], []⟩,
 [[[⟨1, ⟨1, 1⟩, 3, 1, 0, ⟨0, 0⟩⟩, ⟨0, ⟨0, 0⟩, 1, 0, 0, ⟨0, 0⟩⟩]], [[⟨1, ⟨1, 1⟩, 2, 1, 0, ⟨0, 0⟩⟩, ⟨0, ⟨0, 0⟩, 1, 0, 0, ⟨0, 0⟩⟩]]]⟩
def lI (n : Int) : Dat := .v (.int .i64 n)
def lU (n : Int) : Dat := .v (.int .u64 n)
def lpRaw (a b c d e : Int) : List Dat := [lI a, lI b, lI c, lI d, lI e]
def lrRaw (k : Int) : List Dat := [lI 1, lU 0, lU 1, lU 0, lU 1, lI k, lI 1, lI 0, lU 0, lU 0, lU 0, lU 0]
def ldRaw : List Dat := [lI 0, lU 0, lU 0, lU 0, lU 0, lI 1, lI 0, lI 0, lU 0, lU 0, lU 0, lU 0]
def ltRaw (k : Int) : List Dat := [.sl 1 1 fun i => [[.sl 12 2 fun i => [lrRaw k, ldRaw].getD i []]].getD i []]
def lineRaw : List Dat := [.sl 1 2 fun i => [[.sl 5 2 fun i => [lpRaw 1 0 0 0 0, lpRaw 2 0 1 0 1].getD i []], [.sl 5 2 fun i => [lpRaw 2 0 0 1 1, lpRaw 1 0 0 0 0].getD i []]].getD i [], lI 1, .v (.slice none 0 0), .v (.slice none 0 0),
 .sl 1 2 fun i => [ltRaw 3, ltRaw 2].getD i []]
theorem z44 {i : Nat} (h : i < 2) : i = 0 ∨ i = 1 := by omega
theorem lt_one {i : Nat} (h : i < 1) : i = 0 := by omega
theorem z174 (k : Int) (i : Nat) (h : i < 2) : [lrRaw k, ldRaw].getD i [] = rowR [⟨1, ⟨1, 1⟩, k, 1, 0, ⟨0, 0⟩⟩, ⟨0, ⟨0, 0⟩, 1, 0, 0, ⟨0, 0⟩⟩] i := by
 rcases z44 h with rfl | rfl
 ·show lrRaw k = ruleD ⟨1, ⟨1, 1⟩, k, 1, 0, ⟨0, 0⟩⟩
  unfold ruleD lrRaw lI lU
  simp only [x25, j25, show hi 1 = 0 by decide, show lo 1 = 1 by decide]
 ·show ldRaw = ruleD ⟨0, ⟨0, 0⟩, 1, 0, 0, ⟨0, 0⟩⟩
  unfold ruleD ldRaw lI lU
  simp only [x25, j25]
theorem x110 (k : Int) : DLes (ltRaw k) [.sl 1 1 (rowRR [[⟨1, ⟨1, 1⟩, k, 1, 0, ⟨0, 0⟩⟩, ⟨0, ⟨0, 0⟩, 1, 0, 0, ⟨0, 0⟩⟩]])] := by
 refine .cons (q37 rfl fun i h => ?_) .nil
 obtain rfl := lt_one h
 exact .cons (q37 rfl fun i h => .of_eq (z174 k i h)) .nil
theorem x174 : DLes lineRaw (configD lineK) := by
 refine .cons (q37 rfl fun i h => ?_) (.cons (j108 _) (.cons q109 (.cons q109 (.cons (q37 rfl fun i h => ?_) .nil))))
 ·rcases z44 h with rfl | rfl
  ·refine .cons (q37 rfl fun i h => ?_) .nil
   rcases z44 h with rfl | rfl <;> exact .of_eq rfl
  ·refine .cons (q37 rfl fun i h => ?_) .nil
   rcases z44 h with rfl | rfl <;> exact .of_eq rfl
 ·rcases z44 h with rfl | rfl
  ·exact x110 3
  ·exact x110 2
theorem q74 : lineK.small := by
 refine ⟨⟨by decide, ?_⟩, ⟨by decide, by decide⟩, by decide, ?_⟩
 ·intro l h
  simp only [lineK, List.mem_cons, List.not_mem_nil, or_false] at h
  rcases h with rfl | rfl <;> decide
 ·intro t h
  simp only [lineK, List.mem_cons, List.not_mem_nil, or_false] at h
  rcases h with rfl | rfl <;> refine ⟨by decide, fun l h => ?_⟩ <;> (simp only [List.mem_singleton] at h; subst h; decide)
set_option maxRecDepth 100000 in
set_option maxHeartbeats 2000000 in
theorem j174 : ACalls Tryz.prog 69 [] (· = [.agg (configD lineK)]) := by
 refine j170 x174 ?_
 unfold lineRaw ltRaw lrRaw ldRaw lpRaw lI lU
 refine z12 Tryz.func69 rfl (by decide +kernel) (by rw [Tryz.ntmps69]; simp) ?_; rw [Tryz.ntmps69]; simp only [frOf]
 (repeat (first | apply j0 | refine q8 rfl ?_ | refine z8 rfl ?_ | apply x7 | (refine j4 fun K hK => ?_) | (refine x5 fun K hK => ?_) | ((first | apply j6 | apply z7 | ((first | refine x4 (hK _ ?_) | refine x6 (hK _ _ j5 ?_)); clear hK K)); (first | show AWP _ _ _ _ _ | ((try simp only [j7]); first | show loopQ _ _ _ _ _ _ | show cutQ _ _ _ _ | show AWP _ _ _ _ _))) | ((first | refine x8 [1, 2, 3] rfl ?_ | refine j8 [1, 2, 3] rfl ?_); simp (disch := omega) only [go_sem, seval, hd, cb]; (repeat (first | refine ⟨by omega, ?_⟩ | refine ⟨True.intro, ?_⟩)))))
 refine q10 ⟨_, ?_, rfl⟩; rw [Tryz.results69]; simp (disch := omega) only [ResVars, ResVar, ptrLoc, go_sem, seval, hd, cb]
def dropS : Rule := ⟨0, ⟨0, 0⟩, 1, 0, 0, ⟨0, 0⟩⟩
def aw3 : List Rule := [⟨2, ⟨1, 1⟩, 1, 0, 0, ⟨0, 0⟩⟩, dropS, ⟨0, ⟨0, 0⟩, 4, 0, 1, ⟨0, 0⟩⟩]
theorem aw3_tab : tabR aw3 = ([dropS], 0) := by decide +kernel
theorem aw3_sp : spareR aw3 1 = (false, 0) := by decide +kernel
theorem q175 : slimC lineK = (lineK, 0) := by
 have h1 : soundC lineK = 0 := by decide +kernel
 have h2 : errT lineK.tb = 0 := by decide +kernel
 have h3 : lineK.tb.map mapL = lineK.tb := by decide +kernel
 unfold slimC
 rw [if_pos h1, if_pos h2, h3]
theorem z175 : sameC lineK lineK = true := by decide +kernel
def awR0 : List Dat := [lI 2, lU 0, lU 1, lU 0, lU 1, lI 1, lI 0, lI 0, lU 0, lU 0, lU 0, lU 0]
def awR2 : List Dat := [lI 0, lU 0, lU 0, lU 0, lU 0, lI 4, lI 0, lI 1, lU 0, lU 0, lU 0, lU 0]
theorem j110 (i : Nat) (h : i < 3) : [awR0, ldRaw, awR2].getD i [] = rowR aw3 i := by
 rcases (by omega : i = 0 ∨ i = 1 ∨ i = 2) with rfl | rfl | rfl
 ·show awR0 = ruleD ⟨2, ⟨1, 1⟩, 1, 0, 0, ⟨0, 0⟩⟩
  unfold ruleD awR0 lI lU
  simp only [x25, j25, show hi 1 = 0 by decide, show lo 1 = 1 by decide]
 ·show ldRaw = ruleD dropS
  unfold ruleD ldRaw lI lU dropS
  simp only [x25, j25]
 ·show awR2 = ruleD ⟨0, ⟨0, 0⟩, 4, 0, 1, ⟨0, 0⟩⟩
  unfold ruleD awR2 lI lU
  simp only [x25, j25]
theorem x175 : rowR [dropS] 0 = ldRaw := by
 show ruleD dropS = ldRaw
 unfold ruleD ldRaw lI lU dropS
 simp only [x25, j25]
set_option maxRecDepth 100000 in
set_option maxHeartbeats 4000000 in
theorem j175 : ACalls Tryz.prog 29 [] (· = [.d (.v (.bool true))]) := by
 have k1 := j39 (xs := [.d (.sl 12 3 fun i => [awR0, ldRaw, awR2].getD i [])]) (.cons (q35 rfl j110) .nil) (j73 aw3 (by decide))
 have k2 := j39 (xs := [.d (.sl 12 3 fun i => [awR0, ldRaw, awR2].getD i []), .d (.v (.int .i64 1))]) (.cons (q35 rfl j110) (.cons (z54 _) .nil)) (j105 aw3 1 (by decide) (by decide))
 have k3 := j174
 have k4 := q173 lineK q74
 have k5 := Same8_c lineK lineK q74 q74
 rw [aw3_tab] at k1
 rw [aw3_sp] at k2
 rw [q175] at k4
 rw [z175] at k5
 have dr := x175
 have q : eqI [0, 0, 0, 0, 0, 1, 0, 0, 0, 0, 0, 0] [0, 0, 0, 0, 0, 1, 0, 0, 0, 0, 0, 0] = true := rfl
 obtain ⟨d1, d2, d3, d4, d5, hd⟩ : ∃ d1 d2 d3 d4 d5, configD lineK = [d1, d2, d3, d4, d5] := ⟨_, _, _, _, _, rfl⟩
 simp only [hd] at k3 k4 k5
 clear hd
 unfold awR0 awR2 ldRaw lI lU at k1 k2
 unfold ldRaw lI lU at dr
 refine z12 Tryz.func29 rfl (by decide +kernel) (by rw [Tryz.ntmps29]; simp) ?_; rw [Tryz.ntmps29]; simp only [frOf]
 (repeat (first | apply j0 | refine q8 rfl ?_ | refine z8 rfl ?_ | apply x7 | (refine j4 fun K hK => ?_) | (refine x5 fun K hK => ?_) | ((first | apply j6 | apply z7 | ((first | refine x4 (hK _ ?_) | refine x6 (hK _ _ j5 ?_)); clear hK K)); (first | show AWP _ _ _ _ _ | ((try simp only [j7]); first | show loopQ _ _ _ _ _ _ | show cutQ _ _ _ _ | show AWP _ _ _ _ _))) | ((first | refine j10 rfl rfl rfl ?_ | refine q11 rfl rfl rfl ?_); simp (disch := omega) only [go_sem, seval, lI, lU, dr, q, List.getD_cons_zero, List.getD_cons_succ, z13]; (first | refine ⟨_, k1, ?_⟩ | refine ⟨_, k2, ?_⟩ | refine ⟨_, k3, ?_⟩ | refine ⟨_, k4, ?_⟩ | refine ⟨_, k5, ?_⟩)) | ((first | refine x8 [] rfl ?_ | refine j8 [] rfl ?_); simp (disch := omega) only [go_sem, seval, lI, lU, dr, q, List.getD_cons_zero, List.getD_cons_succ, z13]; (repeat (first | refine ⟨by omega, ?_⟩ | refine ⟨True.intro, ?_⟩)))))
 refine q10 ⟨_, ?_, rfl⟩; rw [Tryz.results29]; simp (disch := omega) only [ResVars, ResVar, ptrLoc, go_sem, seval, lI, lU, dr, q, List.getD_cons_zero, List.getD_cons_succ, z13]
theorem q176 {l0 : List Rule} : (l0.take 8).length ≤ 8 := by simp; omega
end Go.Proofs.YtemcdefpihkfpaaGreat
namespace Go.Proofs.YtemcdefpihkfpaaGreat
open Go.Proofs.YtemcdefpihkfpaaGreat.AL
theorem hd3 : hd 3#128 = [.v (.int .u64 0), .v (.int .u64 3)] := by unfold hd; rw [show hi 3#128 = 0 from by decide, show lo 3#128 = 3 from by decide]
theorem hd2 : hd 2#128 = [.v (.int .u64 0), .v (.int .u64 2)] := by unfold hd; rw [show hi 2#128 = 0 from by decide, show lo 2#128 = 2 from by decide]
theorem q111 {l : List Rule} (hs : soundL l = true) : ∀ (ids : List Nat) (p : List Cube), (∀ n ∈ ids, n < l.length) → (∀ k ∈ p, k.sound = true) → (woGo l ids p).2 = 0 →
  (∀ k ∈ (woGo l ids p).1, k.sound = true) ∧ ∀ h, hasP (woGo l ids p).1 h = (hasP p h && ids.all fun n => !hasC (l.getD n r0).mt h)
 | [], p, _, hp, _ => ⟨hp, fun h => by simp [woGo]⟩
 |n :: r, p, hi, hp, he => by
  have hn := z29 hs (hi n (by simp))
  unfold woGo at he ⊢
  split at he
  ·rename_i h0
   rw [if_pos h0]
   have hh := fun h => q58 h [(l.getD n r0).mt] p (fun k hk => by rw [List.mem_singleton] at hk; subst hk; exact hn) hp h0
   obtain ⟨a1, a2⟩ := q111 hs r _ (fun k hk => hi k (by simp [hk])) (hh 0).2 he
   refine ⟨a1, fun h => ?_⟩
   rw [a2, (hh h).1, List.all_cons]
   unfold hasP
   simp [Bool.and_assoc]
  ·rename_i h0
   exact absurd he h0
theorem z176 {l : List Rule} {ids : List Nat} {p : List Cube} (hi : ∀ n ∈ ids, n < l.length) (hp : soundL l = true → ∀ k ∈ p, k.sound = true) (he : (withoutR l ids p).2 = 0) :
  (∀ k ∈ (withoutR l ids p).1, k.sound = true) ∧ ∀ h, hasP (withoutR l ids p).1 h = (hasP p h && ids.all fun n => !hasC (l.getD n r0).mt h) := by
 unfold withoutR at *
 split at he
 ·rename_i hs
  rw [if_pos hs]
  exact q111 hs ids p hi (hp hs) he
 ·cases he
structure IsBest (l : List Rule) (h : BitVec 128) (p : Nat) : Prop where
 lt : p < l.length
 has : hasC (l.getD p r0).mt h = true
 top : ∀ q, q < l.length → hasC (l.getD q r0).mt h = true → (l.getD q r0).pr ≤ (l.getD p r0).pr ∧ (q < p → (l.getD q r0).pr < (l.getD p r0).pr)
theorem IsBest.uniq {l : List Rule} {h : BitVec 128} {p p' : Nat} (a : IsBest l h p) (b : IsBest l h p') : p = p' := by
 have h1 := a.top p' b.lt b.has
 have h2 := b.top p a.lt a.has
 apply Classical.byContradiction
 intro hne
 rcases Nat.lt_or_gt_of_ne hne with hlt | hlt
 ·have := h2.2 hlt; omega
 ·have := h1.2 hlt; omega
theorem x33 (l : List Rule) (h : BitVec 128) : match findR l h with
  | none => ∀ q, q < l.length → hasC (l.getD q r0).mt h = false
  | some p => IsBest l h p := by
 rw [q60]
 have sp := x35 (fun i => !hasC (l.getD i r0).mt h) (fun i => l.getD i r0) l.length
 unfold bestH
 cases hb : bestTo (fun i => !hasC (l.getD i r0).mt h) (fun i => l.getD i r0) l.length with
 | none => rw [hb] at sp; intro q hq; simpa using sp q hq
 |some p =>
  rw [hb] at sp
  obtain ⟨s1, s2, s3⟩ := sp
  exact ⟨s1, by simpa using s2, fun q hq hq2 => s3 q hq (by rw [hq2]; rfl)⟩
theorem z74 {l : List Rule} {h : BitVec 128} {p : Nat} (b : IsBest l h p) : findR l h = some p := by
 have sp := x33 l h
 cases hf : findR l h with
 | none => rw [hf] at sp; have := sp p b.lt; rw [b.has] at this; cases this
 | some q => rw [hf] at sp; rw [IsBest.uniq sp b]
theorem x176 {l : List Rule} {h : BitVec 128} (b : ∀ q, q < l.length → hasC (l.getD q r0).mt h = false) : findR l h = none := by
 have sp := x33 l h
 cases hf : findR l h with
 | none => rfl
 | some q => rw [hf] at sp; have := b q sp.lt; rw [sp.has] at this; cases this
theorem z111 {l : List Rule} {n k : Nat} (hn : n < l.length) : k ∈ (orderR l).take ((orderR l).idxOf n) ↔ k < l.length ∧ ltR l k n := by
 have hnm := z23.2 hn
 have hlt := List.idxOf_lt_length_of_mem hnm
 constructor
 ·intro hk
  have hkl := x32 (List.mem_of_mem_take hk)
  refine ⟨hkl, ?_⟩
  obtain ⟨i, hi, e⟩ := List.mem_iff_getElem.1 hk
  rw [List.length_take] at hi
  rw [List.getElem_take] at e
  have := List.pairwise_iff_getElem.1 (q41 l) i _ (by omega) hlt (by omega)
  rw [e, List.getElem_idxOf hlt] at this
  exact this
 ·rintro ⟨h1, h2⟩
  have := (x41 h1 hn).2 h2
  unfold keyO at this
  have hk := List.idxOf_lt_length_of_mem (z23.2 h1)
  refine List.mem_iff_getElem.2 ⟨(orderR l).idxOf k, by rw [List.length_take]; omega, ?_⟩
  rw [List.getElem_take, List.getElem_idxOf hk]
theorem j176 {l : List Rule} {n : Nat} (hn : n < l.length) (he : (seenR l n).2 = 0) (h : BitVec 128) : hasP (seenR l n).1 h = decide (findR l h = some n) := by
 have hs := (z176 (fun k hk => x32 (List.mem_of_mem_take hk)) (fun hs k hk => by simp at hk; subst hk; exact z29 hs hn) he).2 h
 change hasP (seenR l n).1 h = _ at hs
 rw [hs, Bool.eq_iff_iff, decide_eq_true_iff, Bool.and_eq_true, List.all_eq_true]
 constructor
 ·rintro ⟨h1, h2⟩
  refine z74 ⟨hn, by unfold hasP at h1; simpa using h1, fun q hq hq2 => ?_⟩
  have hno : ¬ ltR l q n := fun hlt => by
   have := h2 q ((z111 hn).2 ⟨hq, hlt⟩)
   rw [hq2] at this; cases this
  unfold ltR at hno
  omega
 ·intro hf
  have sp := x33 l h
  rw [hf] at sp
  refine ⟨by unfold hasP; simpa using sp.has, fun k hk => ?_⟩
  obtain ⟨k1, k2⟩ := (z111 hn).1 hk
  cases hb : hasC (l.getD k r0).mt h with
  | false => rfl
  |true =>
   have := sp.top k k1 hb
   unfold ltR at k2
   omega
def outR (l : List Rule) (n : Nat) : List Rule := l.take n ++ l.drop (n + 1)
def shiftN (n a : Nat) : Nat := if a < n then a else a - 1
theorem x111 {l : List Rule} {n : Nat} (hn : n < l.length) : (outR l n).length + 1 = l.length := by
 unfold outR; rw [List.length_append, List.length_take, List.length_drop]; omega
theorem x27 {l : List Rule} {n : Nat} (hn : n < l.length) (k : Nat) : (outR l n).getD k r0 = l.getD (if k < n then k else k + 1) r0 := by
 unfold outR
 rw [List.getD_eq_getElem?_getD, List.getD_eq_getElem?_getD]
 by_cases h : k < n
 ·rw [if_pos h, List.getElem?_append_left (by rw [List.length_take]; omega), List.getElem?_take_of_lt h]
 ·rw [if_neg h, List.getElem?_append_right (by rw [List.length_take]; omega), List.length_take, List.getElem?_drop]
  congr 2; omega
theorem q177 {l : List Rule} {n : Nat} (hn : n < l.length) {h : BitVec 128} (hne : findR l h ≠ some n) : findR (outR l n) h = (findR l h).map (shiftN n) := by
 have sp := x33 l h
 have ol := x111 hn
 cases hf : findR l h with
 |none =>
  rw [hf] at sp
  refine x176 fun q hq => ?_
  rw [x27 hn]
  exact sp _ (by split <;> omega)
 |some a =>
  rw [hf] at sp hne
  have han : a ≠ n := fun e => hne (by rw [e])
  have sa : (if shiftN n a < n then shiftN n a else shiftN n a + 1) = a := by
   unfold shiftN
   by_cases h1 : a < n
   ·rw [if_pos h1, if_pos h1]
   ·rw [if_neg h1, if_neg (by omega)]; omega
  have lt := sp.lt
  refine z74 ⟨by unfold shiftN; split <;> omega, by rw [x27 hn, sa]; exact sp.has, fun q hq hq2 => ?_⟩
  rw [x27 hn] at hq2 ⊢
  rw [x27 hn, sa]
  have t := sp.top _ (by split <;> omega) hq2
  refine ⟨t.1, fun hlt => t.2 ?_⟩
  unfold shiftN at hlt
  split at hlt <;> split <;> omega
theorem z177 {a b : List Cube} (h : BitVec 128) (e : meetPE a b = 0) : hasP (meetPV a b) h = (hasP a h && hasP b h) := by
 unfold meetPE at e
 unfold meetPV
 split at e
 ·rename_i s
  rw [if_pos s, z71 _ e, x102, j157]
 ·cases e
end Go.Proofs.YtemcdefpihkfpaaGreat
namespace Go.Proofs.YtemcdefpihkfpaaGreat
open Go Go.Proofs.YtemcdefpihkfpaaGreat.AL
theorem x74 {x y : Rule} : doEq x y = true ↔ x.kd = y.kd ∧ x.pt = y.pt ∧ x.tb = y.tb ∧ x.st = y.st := by
 unfold doEq
 simp only [Bool.and_eq_true, beq_iff_eq]
theorem x177 {x y z : Rule} (h : doEq x y = true) (k : doEq y z = true) : doEq x z = true := by
 rw [x74] at *
 obtain ⟨a, b, c, d⟩ := h
 obtain ⟨e, f, g, i⟩ := k
 exact ⟨a.trans e, b.trans f, c.trans g, d.trans i⟩
theorem j111 (x : Rule) : doEq x x = true := x74.2 ⟨rfl, rfl, rfl, rfl⟩
theorem j177 {x y : Rule} (h : doEq x y = true) : doEq y x = true := by
 rw [x74] at *
 obtain ⟨a, b, c, d⟩ := h
 exact ⟨a.symm, b.symm, c.symm, d.symm⟩
theorem q112 {l : List Rule} {n : Nat} {h : BitVec 128} (hs : soundL l = true) : ∀ (r : List Nat) (p : List Cube) (b : Bool), (∀ k ∈ r, k < l.length) → (∀ k ∈ p, k.sound = true) → p.length ≤ 200 → spGo l n r p b = (true, 0) →
  b = true ∧ (hasP p h = true → ∃ r1 k r2, r = r1 ++ k :: r2 ∧ (∀ j ∈ r1, hasC (l.getD j r0).mt h = false) ∧ hasC (l.getD k r0).mt h = true ∧ doEq (l.getD k r0) (l.getD n r0) = true)
 | [], p, b, _, hp, _, hg => by
  unfold spGo at hg
  have h1 : (b && p.isEmpty) = true := congrArg Prod.fst hg
  rw [Bool.and_eq_true] at h1
  refine ⟨h1.1, fun hh => ?_⟩
  have : p = [] := List.isEmpty_iff.1 h1.2
  subst this
  exact absurd hh (by unfold hasP; simp)
 |k :: r, p, b, hr, hp, hl, hg => by
  unfold spGo at hg
  have hk := hr k (List.mem_cons_self ..)
  have hms := z29 hs hk
  split at hg
  ·rename_i he
   split at hg
   ·rename_i he2
    obtain ⟨h1, h2⟩ := q112 (h := h) hs r _ _ (fun j hj => hr j (List.mem_cons_of_mem _ hj)) (z58 hp hms he2) (z42 _ _ hl) hg
    rw [Bool.and_eq_true, Bool.or_eq_true] at h1
    refine ⟨h1.1, fun hh => ?_⟩
    cases hc : hasC (l.getD k r0).mt h with
    |true =>
     refine ⟨[], k, r, rfl, (fun j hj => by cases hj), hc, ?_⟩
     rcases h1.2 with hem | hd
     ·have hm := z177 h he
      rw [hh, List.isEmpty_iff.1 hem] at hm
      unfold hasP at hm
      rw [List.any_cons, List.any_nil, hc] at hm
      cases hm
     ·exact hd
    |false =>
     have hx := (q58 h [(l.getD k r0).mt] p (fun x hx => by simp only [List.mem_singleton] at hx; subst hx; exact hms) hp he2).1
     rw [hh] at hx
     have : hasP [(l.getD k r0).mt] h = false := by unfold hasP; rw [List.any_cons, List.any_nil, hc]; rfl
     rw [this] at hx
     obtain ⟨r1, k', r2, e, g1, g2, g3⟩ := h2 (by rw [hx]; rfl)
     refine ⟨k :: r1, k', r2, by rw [e]; rfl, fun j hj => ?_, g2, g3⟩
     rcases List.mem_cons.1 hj with rfl | hj
     ·exact hc
     ·exact g1 j hj
   ·rename_i he2; exact absurd (congrArg Prod.snd hg) he2
  ·rename_i he; exact absurd (congrArg Prod.snd hg) he
def AlikeF (l out : List Rule) (h : BitVec 128) : Prop := match findR l h, findR out h with
 | none, none => True
 | some p, some q => doEq (l.getD p r0) (out.getD q r0) = true
 | _, _ => False
theorem AlikeF.refl (l : List Rule) (h : BitVec 128) : AlikeF l l h := by
 unfold AlikeF
 cases findR l h with
 | none => trivial
 | some p => exact j111 _
theorem AlikeF.trans {a b c : List Rule} {h : BitVec 128} (x : AlikeF a b h) (y : AlikeF b c h) : AlikeF a c h := by
 unfold AlikeF at *
 cases ha : findR a h <;> cases hb : findR b h <;> cases hc : findR c h <;> rw [ha, hb] at x <;> rw [hb, hc] at y <;> first | trivial | exact x.elim | exact y.elim | exact x177 x y
theorem q178 {l : List Rule} {n : Nat} {h : BitVec 128} (hb : IsBest l h n) {q : Nat} (hq : q < l.length) (hne : q ≠ n) (hc : hasC (l.getD q r0).mt h = true) : q ∈ behR l n := by
 rw [x42 hb.lt]
 refine ⟨hq, ?_⟩
 obtain ⟨h1, h2⟩ := hb.top q hq hc
 unfold ltR
 by_cases h3 : (l.getD q r0).pr < (l.getD n r0).pr
 ·exact .inl h3
 ·right
  refine ⟨by omega, ?_⟩
  rcases Nat.lt_or_gt_of_ne hne with h4 | h4
  ·have := h2 h4; omega
  ·exact h4
theorem z178 {l : List Rule} {n : Nat} (hn : n < l.length) (hsp : spareR l n = (true, 0)) (h : BitVec 128) : AlikeF l (outR l n) h := by
 unfold spareR at hsp
 split at hsp
 ·rename_i he
  obtain ⟨hs, hl, hp⟩ := x105 hn he
  by_cases hf : findR l h = some n
  ·have sp := x33 l h
   rw [hf] at sp
   have hh := j176 hn he h
   rw [hf, decide_eq_true rfl] at hh
   obtain ⟨_, h2⟩ := q112 (h := h) hs (behR l n) _ _ (fun k hk => ((x42 hn).1 hk).1) hp hl hsp
   obtain ⟨r1, k, r2, e, g1, g2, g3⟩ := h2 hh
   have hkm : k ∈ behR l n := by rw [e]; simp
   obtain ⟨hkl, hkn⟩ := (x42 hn).1 hkm
   have hne : k ≠ n := fun e => by subst e; exact j68 hkn
   have srt := x71 l n
   rw [e] at srt
   have ol := x111 hn
   have sa : (if shiftN n k < n then shiftN n k else shiftN n k + 1) = k := by
    unfold shiftN
    by_cases h1 : k < n
    ·rw [if_pos h1, if_pos h1]
    ·rw [if_neg h1, if_neg (by omega)]; omega
   have best : IsBest (outR l n) h (shiftN n k) := by
    refine ⟨by unfold shiftN; split <;> omega, by rw [x27 hn, sa]; exact g2, fun q hq hq2 => ?_⟩
    rw [x27 hn] at hq2 ⊢
    rw [x27 hn, sa]
    have hql : (if q < n then q else q + 1) < l.length := by split <;> omega
    have hqn : (if q < n then q else q + 1) ≠ n := by split <;> omega
    have hm := q178 sp hql hqn hq2
    have back : ∀ q', shiftN n (if q' < n then q' else q' + 1) = q' := fun q' => by
     unfold shiftN
     by_cases h1 : q' < n
     ·rw [if_pos h1, if_pos h1]
     ·rw [if_neg h1, if_neg (by omega)]; omega
    have hb := back q
    generalize hQ : (if q < n then q else q + 1) = Q at *
    rw [e] at hm
    have lt : Q = k ∨ ltR l k Q := by
     rcases List.mem_append.1 hm with hm | hm
     ·rw [g1 Q hm] at hq2; cases hq2
     ·rcases List.mem_cons.1 hm with rfl | hm
      ·exact .inl rfl
      ·exact .inr ((List.pairwise_cons.1 (List.pairwise_append.1 srt).2.1).1 Q hm)
    rcases lt with rfl | lt
    ·refine ⟨Int.le_refl _, fun hlt => ?_⟩
     omega
    ·unfold ltR at lt
     refine ⟨by omega, fun hlt => ?_⟩
     unfold shiftN at hlt hb
     split at hlt <;> split at hb <;> omega
   unfold AlikeF
   rw [hf, z74 best]
   show doEq (l.getD n r0) ((outR l n).getD (shiftN n k) r0) = true
   rw [x27 hn, sa]
   exact j177 g3
  ·have fo := q177 hn hf
   unfold AlikeF
   rw [fo]
   cases hc : findR l h with
   | none => trivial
   |some a =>
    show doEq (l.getD a r0) ((outR l n).getD (shiftN n a) r0) = true
    have han : a ≠ n := fun e => hf (by rw [hc, e])
    have sa : (if shiftN n a < n then shiftN n a else shiftN n a + 1) = a := by
     unfold shiftN
     by_cases h1 : a < n
     ·rw [if_pos h1, if_pos h1]
     ·rw [if_neg h1, if_neg (by omega)]; omega
    rw [x27 hn, sa]
    exact j111 _
 ·exact absurd (congrArg Prod.snd hsp) (by assumption)
theorem x178 (l : List Rule) (n : Nat) : l.eraseIdx n = outR l n := by
 unfold outR; exact List.eraseIdx_eq_take_drop_succ _ _
theorem j74 (h : BitVec 128) : ∀ (k : Nat) (l : List Rule), k ≤ l.length → (tabGo k l).2 = 0 → AlikeF l (tabGo k l).1 h
 | 0, l, _, _ => .refl l h
 |k + 1, l, hk, he => by
  unfold tabGo at he ⊢
  split at he
  ·rename_i h0
   rw [if_pos h0]
   cases hb : (spareR l k).1 with
   |false =>
    rw [hb] at he
    simp only [Bool.false_eq_true, if_false] at he ⊢
    exact j74 h k l (by omega) he
   |true =>
    rw [hb] at he
    simp only [if_true] at he ⊢
    have e9 : (l.eraseIdx k).length = l.length - 1 := List.length_eraseIdx_of_lt (by omega)
    refine AlikeF.trans ?_ (j74 h k _ (by omega) he)
    rw [x178]
    exact z178 (by omega) (Prod.ext hb h0) h
  ·rename_i h0; exact absurd he h0
theorem j178 {l : List Rule} (h : BitVec 128) (he : (tabR l).2 = 0) : AlikeF l (tabR l).1 h := by
 unfold tabR at he ⊢
 split at he
 ·rename_i hs
  rw [if_pos hs]
  exact j74 h _ l (Nat.le_refl _) he
 ·exact absurd he (by decide)
set_option maxRecDepth 100000 in
set_option maxHeartbeats 8000000 in
theorem q179 (l0 : List Rule) (h : BitVec 128) (hl0 : l0.length ≤ 1099511627776) : ACalls Tryz.prog 8 [.d (.sl 12 l0.length (rowR l0)), .agg (hd h)] (· = [.d (.v (.bool true))]) := by
 have fw := few29_c l0 hl0
 have h8 : (l0.take 8).length ≤ 8 := q176
 generalize l0.take 8 = l at fw h8
 have aw := j175
 have kt := j73 l (by omega)
 have hlen := j109 l
 have hal := j178 (l := l) h
 generalize tabR l = R at kt hlen hal
 obtain ⟨out, e⟩ := R
 simp only [] at kt hlen hal
 by_cases he : e = 0
 ·subst he
  have hal := hal rfl
  have f1 := z110 l h (by omega)
  have f2 := z110 out h (by omega)
  unfold AlikeF at hal
  have s1 := x33 l h
  have s2 := x33 out h
  rw [q60, q60] at hal
  rw [q60] at s1 s2
  have q1 : decide ((out.length : Int) ≤ (l.length : Int)) = true := decide_eq_true (by omega)
  cases h1 : bestH l h l.length with
  |none =>
   cases h2 : bestH out h out.length with
   |none =>
    rw [h1] at f1
    rw [h2] at f2
    simp only [Option.getD_none, Option.isSome_none] at f1 f2
    refine z12 Tryz.func8 rfl (by decide +kernel) (by rw [Tryz.ntmps8]; simp) ?_; rw [Tryz.ntmps8]; simp only [frOf]
    (repeat (first | apply j0 | refine q8 rfl ?_ | refine z8 rfl ?_ | apply x7 | (refine j4 fun K hK => ?_) | (refine x5 fun K hK => ?_) | ((first | apply j6 | apply z7 | ((first | refine x4 (hK _ ?_) | refine x6 (hK _ _ j5 ?_)); clear hK K)); (first | show AWP _ _ _ _ _ | ((try simp only [j7]); first | show loopQ _ _ _ _ _ _ | show cutQ _ _ _ _ | show AWP _ _ _ _ _))) | ((first | refine j10 rfl rfl rfl ?_ | refine q11 rfl rfl rfl ?_); simp (disch := omega) only [go_sem, seval, hd, cb, ruleD, q15, q1]; (first | refine ⟨_, fw, ?_⟩ | refine ⟨_, kt, ?_⟩ | refine ⟨_, aw, ?_⟩ | refine ⟨_, f1, ?_⟩ | refine ⟨_, f2, ?_⟩)) | ((first | refine x8 [] rfl ?_ | refine j8 [] rfl ?_); simp (disch := omega) only [go_sem, seval, hd, cb, ruleD, q15, q1]; (repeat (first | refine ⟨by omega, ?_⟩ | refine ⟨True.intro, ?_⟩)))))
    refine q10 ⟨_, ?_, rfl⟩; rw [Tryz.results8]; simp (disch := omega) only [ResVars, ResVar, ptrLoc, go_sem, seval, hd, cb, ruleD, q15, q1]
   | some q => rw [h1, h2] at hal; exact hal.elim
  |some p =>
   cases h2 : bestH out h out.length with
   | none => rw [h1, h2] at hal; exact hal.elim
   |some q =>
    rw [h1] at f1 s1
    rw [h2] at f2 s2
    rw [h1, h2] at hal
    have lp := s1.lt
    have lq := s2.lt
    have r1 := z20 l p
    have r2 := z20 out q
    have hal : doEq (l.getD p r0) (out.getD q r0) = true := hal
    simp only [Option.getD_some, Option.isSome_some] at f1 f2
    generalize l.getD p r0 = x at r1 hal
    generalize out.getD q r0 = y at r2 hal
    have qd := z105 x y
    rw [hal] at qd
    refine z12 Tryz.func8 rfl (by decide +kernel) (by rw [Tryz.ntmps8]; simp) ?_; rw [Tryz.ntmps8]; simp only [frOf]
    (repeat (first | apply j0 | refine q8 rfl ?_ | refine z8 rfl ?_ | apply x7 | (refine j4 fun K hK => ?_) | (refine x5 fun K hK => ?_) | ((first | apply j6 | apply z7 | ((first | refine x4 (hK _ ?_) | refine x6 (hK _ _ j5 ?_)); clear hK K)); (first | show AWP _ _ _ _ _ | ((try simp only [j7]); first | show loopQ _ _ _ _ _ _ | show cutQ _ _ _ _ | show AWP _ _ _ _ _))) | ((first | refine j10 rfl rfl rfl ?_ | refine q11 rfl rfl rfl ?_); simp (disch := omega) only [go_sem, seval, hd, cb, ruleD, q15, q1, r1, r2, qd]; (first | refine ⟨_, fw, ?_⟩ | refine ⟨_, kt, ?_⟩ | refine ⟨_, aw, ?_⟩ | refine ⟨_, f1, ?_⟩ | refine ⟨_, f2, ?_⟩)) | ((first | refine x8 [] rfl ?_ | refine j8 [] rfl ?_); simp (disch := omega) only [go_sem, seval, hd, cb, ruleD, q15, q1, r1, r2, qd]; (repeat (first | refine ⟨by omega, ?_⟩ | refine ⟨True.intro, ?_⟩)))))
    refine q10 ⟨_, ?_, rfl⟩; rw [Tryz.results8]; simp (disch := omega) only [ResVars, ResVar, ptrLoc, go_sem, seval, hd, cb, ruleD, q15, q1, r1, r2, qd]
 ·have q1 : (e != 0) = true := x14 he
  refine z12 Tryz.func8 rfl (by decide +kernel) (by rw [Tryz.ntmps8]; simp) ?_; rw [Tryz.ntmps8]; simp only [frOf]
  (repeat (first | apply j0 | refine q8 rfl ?_ | refine z8 rfl ?_ | apply x7 | (refine j4 fun K hK => ?_) | (refine x5 fun K hK => ?_) | ((first | apply j6 | apply z7 | ((first | refine x4 (hK _ ?_) | refine x6 (hK _ _ j5 ?_)); clear hK K)); (first | show AWP _ _ _ _ _ | ((try simp only [j7]); first | show loopQ _ _ _ _ _ _ | show cutQ _ _ _ _ | show AWP _ _ _ _ _))) | ((first | refine j10 rfl rfl rfl ?_ | refine q11 rfl rfl rfl ?_); simp (disch := omega) only [go_sem, seval, hd, cb, ruleD, q15, q1]; (first | refine ⟨_, fw, ?_⟩ | refine ⟨_, kt, ?_⟩ | refine ⟨_, aw, ?_⟩)) | ((first | refine x8 [] rfl ?_ | refine j8 [] rfl ?_); simp (disch := omega) only [go_sem, seval, hd, cb, ruleD, q15, q1]; (repeat (first | refine ⟨by omega, ?_⟩ | refine ⟨True.intro, ?_⟩)))))
  refine q10 ⟨_, ?_, rfl⟩; rw [Tryz.results8]; simp (disch := omega) only [ResVars, ResVar, ptrLoc, go_sem, seval, hd, cb, ruleD, q15, q1]
end Go.Proofs.YtemcdefpihkfpaaGreat
