/- Part 5 of a proof: lemmas beneath the theorem that the last text bears. Conditions: none. -/
import Derived.Test.YtemcdefpihkfpaaGreatKSlimAliked
set_option linter.unusedSimpArgs false
set_option linter.unusedVariables false
namespace Go.Proofs.YtemcdefpihkfpaaGreat
open Go Go.Proofs.YtemcdefpihkfpaaGreat.AL
set_option maxHeartbeats 2000000 in
theorem q105 (l : List Rule) (a b : Nat) (ha : a < l.length) (hb : b < l.length) (hl : l.length ≤ 1099511627776) : ACalls Tryz.prog 102 [.d (.sl 12 l.length (rowR l)), .d (.v (.int .i64 (a : Int))), .d (.v (.int .i64 (b : Int)))] (· = [.d (.v (.int .i64 (cmpO l a b)))]) := by
 have r1 := z20 l a
 have r2 := z20 l b
 unfold cmpO
 generalize l.getD a r0 = x at r1
 generalize l.getD b r0 = y at r2
 have k1 := q55 y.pr x.pr
 have k2 := q55 (a : Int) (b : Int)
 generalize cmpI y.pr x.pr = c1 at k1
 generalize cmpI (a : Int) (b : Int) = c2 at k2
 have k3 := OrI_c c1 c2
 refine z12 Tryz.func102 rfl (by decide +kernel) (by rw [Tryz.ntmps102]; simp) ?_; rw [Tryz.ntmps102]; simp only [frOf]
 (repeat (first | apply j0 | refine q8 rfl ?_ | refine z8 rfl ?_ | apply x7 | (refine j4 fun K hK => ?_) | (refine x5 fun K hK => ?_) | ((first | apply j6 | apply z7 | ((first | refine x4 (hK _ ?_) | refine x6 (hK _ _ j5 ?_)); clear hK K)); (first | show AWP _ _ _ _ _ | ((try simp only [j7]); first | show loopQ _ _ _ _ _ _ | show cutQ _ _ _ _ | show AWP _ _ _ _ _))) | ((first | refine j10 rfl rfl rfl ?_ | refine q11 rfl rfl rfl ?_); simp (disch := omega) only [go_sem, seval, hd, cb, ruleD, r1, r2]; (first | refine ⟨_, k1, ?_⟩ | refine ⟨_, k2, ?_⟩ | refine ⟨_, k3, ?_⟩)) | ((first | refine x8 [] rfl ?_ | refine j8 [] rfl ?_); simp (disch := omega) only [go_sem, seval, hd, cb, ruleD, r1, r2]; (repeat (first | refine ⟨by omega, ?_⟩ | refine ⟨True.intro, ?_⟩)))))
 refine q10 ⟨_, ?_, rfl⟩; rw [Tryz.results102]; simp (disch := omega) only [ResVars, ResVar, ptrLoc, go_sem, seval, hd, cb, ruleD, r1, r2]
theorem cmpN_S (l : List Rule) (hl : l.length ≤ 1099511627776) : CmpN Tryz.prog 102 (.d (.sl 12 l.length (rowR l))) l.length (keyO l) (cmpO l) where
 call p q hp hq := q105 l p q hp hq hl
 lt p q hp hq := cmpO_lt.trans (x41 hp hq).symm
 inj p q hp hq := z41 hp hq
def behI (l : List Rule) (n : Nat) (k : Fin (l.length + 1)) : ASt :=
 ⟨[(9, .p (.d (.v (.int .i64 (k.val : Int))))), (8, .p (.d (.v (.int .i64 (l.length : Int))))), (5, .ow 5 (behTo l n k.val).length 1 (behTo l n k.val).length), (1, .p (.d (.v (.int .i64 (n : Int))))), (0, .p (.d (.sl 12 l.length (rowR l))))],
  [(5, .own 3 1 (behTo l n k.val).length (behTo l n k.val).length (rowN (nthN (behTo l n k.val))))]⟩
theorem q161 (L : List Nat) (j i : Nat) (hi : i < L.length + 1) : catF L.length (rowN (nthN L)) (fun i => [[Dat.v (.int .i64 (j : Int))]].getD i []) i = rowN (nthN (L ++ [j])) i := by
 unfold catF rowN nthN
 split
 ·rename_i h
  rw [List.getD_eq_getElem?_getD, List.getD_eq_getElem?_getD, List.getElem?_append_left h]
 ·have : i = L.length := by omega
  subst this
  rw [Nat.sub_self, List.getD_eq_getElem?_getD (l := L ++ [j]), List.getElem?_append_right (Nat.le_refl _), Nat.sub_self]
  rfl
set_option maxRecDepth 100000 in
set_option maxHeartbeats 4000000 in
theorem z161 (l : List Rule) (n : Nat) (hn : n < l.length) (hl : l.length ≤ 1099511627776) : ACalls Tryz.prog 66 [.d (.sl 12 l.length (rowR l)), .d (.v (.int .i64 (n : Int)))] (· = [.d (.sl 1 (behR l n).length (rowI (behR l n)))]) := by
 have hc := cmpN_S l hl
 refine z12 Tryz.func66 rfl (by decide +kernel) (by rw [Tryz.ntmps66]; simp) ?_; rw [Tryz.ntmps66]; simp only [frOf]
 (repeat ((fail_if_success (show AWP _ _ (.region 2 _ _) _ _)); first | apply j0 | refine q8 rfl ?_ | refine z8 rfl ?_ | apply x7 | (refine j4 fun K hK => ?_) | (refine x5 fun K hK => ?_) | ((first | apply j6 | apply z7 | ((first | refine x4 (hK _ ?_) | refine x6 (hK _ _ j5 ?_)); clear hK K)); (first | show AWP _ _ _ _ _ | ((try simp only [j7]); first | show loopQ _ _ _ _ _ _ | show cutQ _ _ _ _ | show AWP _ _ _ _ _))) | ((first | refine x8 [] rfl ?_ | refine j8 [] rfl ?_); simp (disch := omega) only [go_sem, seval, hd, cb, ruleD]; (repeat (first | refine ⟨by omega, ?_⟩ | refine ⟨True.intro, ?_⟩)))))
 refine q87 5 5 1 3 (rowN (nthN [])) rfl (by kernel_rfl) rfl ?_
 (repeat (first | apply j0 | refine q8 rfl ?_ | refine z8 rfl ?_ | apply x7 | (refine j4 fun K hK => ?_) | (refine x5 fun K hK => ?_) | ((first | apply j6 | apply z7 | ((first | refine x4 (hK _ ?_) | refine x6 (hK _ _ j5 ?_)); clear hK K)); (first | show AWP _ _ _ _ _ | ((try simp only [j7]); first | show loopQ _ _ _ _ _ _ | show cutQ _ _ _ _ | show AWP _ _ _ _ _))) | ((first | refine x8 [] rfl ?_ | refine j8 [] rfl ?_); simp (disch := omega) only [go_sem, seval, hd, cb, ruleD]; (repeat (first | refine ⟨by omega, ?_⟩ | refine ⟨True.intro, ?_⟩)))))
 refine x13 (behI l n) (fun s => l.length - s.val) ⟨0, by omega⟩ ?_ (fun s => ?_)
 ·unfold behI
  refine Weak.list ?_ ?_; (all_goals simp (disch := omega) only [AllF, AllL, x11, j11, z11, exists_eq_left', go_sem, seval, hd, cb, ruleD]); (all_goals (repeat' (with_reducible apply And.intro))); (all_goals try (first | exact q9 rfl | (refine q12 ?_; omega) | (refine q9 ?_; simp; done)))
  exact x19 rfl rfl (fun i hi => absurd hi (Nat.not_lt_zero _))
 obtain ⟨k, hk⟩ := s
 unfold behI
 by_cases h : k < l.length
 ·have kc := q105 l k n h hn hl
  have es := z160 l n k
  have hbl := x103 l n k
  generalize behTo l n k = B at es hbl
  generalize cmpO l k n = c at kc es
  by_cases hcp : 0 < c
  ·rw [if_pos hcp] at es
   have hgt := dgt hcp
   (repeat (first | apply j0 | refine q8 rfl ?_ | refine z8 rfl ?_ | apply x7 | (refine j4 fun K hK => ?_) | (refine x5 fun K hK => ?_) | ((first | apply j6 | apply z7 | ((first | refine x4 (hK _ ?_) | refine x6 (hK _ _ j5 ?_)); clear hK K)); (first | show AWP _ _ _ _ _ | ((try simp only [j7]); first | show loopQ _ _ _ _ _ _ | show cutQ _ _ _ _ | show AWP _ _ _ _ _))) | ((first | refine j10 rfl rfl rfl ?_ | refine q11 rfl rfl rfl ?_); simp (disch := omega) only [go_sem, seval, hd, cb, ruleD, hgt]; (first | refine ⟨_, kc, ?_⟩)) | ((first | refine x8 [] rfl ?_ | refine j8 [] rfl ?_); simp (disch := omega) only [go_sem, seval, hd, cb, ruleD, hgt]; (repeat (first | refine ⟨by omega, ?_⟩ | refine ⟨True.intro, ?_⟩)))))
   refine ⟨⟨k + 1, by omega⟩, by simp only []; omega, ?_⟩
   simp only [es, List.length_append, List.length_cons, List.length_nil]
   refine Weak.list ?_ ?_; (all_goals simp (disch := omega) only [AllF, AllL, x11, j11, z11, exists_eq_left', go_sem, seval, hd, cb, ruleD, hgt]); (all_goals (repeat' (with_reducible apply And.intro))); (all_goals try (first | exact q9 rfl | (refine q12 ?_; omega) | (refine q9 ?_; simp; done)))
   ·exact x19 rfl rfl (fun i hi => q161 B k i hi)
  ·rw [if_neg hcp, List.append_nil] at es
   have hgt := dngt hcp
   (repeat (first | apply j0 | refine q8 rfl ?_ | refine z8 rfl ?_ | apply x7 | (refine j4 fun K hK => ?_) | (refine x5 fun K hK => ?_) | ((first | apply j6 | apply z7 | ((first | refine x4 (hK _ ?_) | refine x6 (hK _ _ j5 ?_)); clear hK K)); (first | show AWP _ _ _ _ _ | ((try simp only [j7]); first | show loopQ _ _ _ _ _ _ | show cutQ _ _ _ _ | show AWP _ _ _ _ _))) | ((first | refine j10 rfl rfl rfl ?_ | refine q11 rfl rfl rfl ?_); simp (disch := omega) only [go_sem, seval, hd, cb, ruleD, hgt]; (first | refine ⟨_, kc, ?_⟩)) | ((first | refine x8 [] rfl ?_ | refine j8 [] rfl ?_); simp (disch := omega) only [go_sem, seval, hd, cb, ruleD, hgt]; (repeat (first | refine ⟨by omega, ?_⟩ | refine ⟨True.intro, ?_⟩)))))
   refine ⟨⟨k + 1, by omega⟩, by simp only []; omega, ?_⟩
   simp only [es]
   refine Weak.list ?_ ?_; (all_goals simp (disch := omega) only [AllF, AllL, x11, j11, z11, exists_eq_left', go_sem, seval, hd, cb, ruleD, hgt]); (all_goals (repeat' (with_reducible apply And.intro))); (all_goals try (first | exact q9 rfl | (refine q12 ?_; omega) | (refine q9 ?_; simp; done)))
 ·have : k = l.length := by omega
  subst this
  have hbl := x103 l n l.length
  have hrl := j104 hn
  have hb := @j160 l n hn
  have d0 := z104 l n
  have sc := x97 hc (nthN (behTo l n l.length)) (behTo l n l.length).length (behTo l n l.length).length (by omega) d0
  generalize (behTo l n l.length).length = m at *
  generalize nthN (behTo l n l.length) = x0 at *
  (repeat (first | apply j0 | refine q8 rfl ?_ | refine z8 rfl ?_ | apply x7 | (refine j4 fun K hK => ?_) | (refine x5 fun K hK => ?_) | ((first | apply j6 | apply z7 | ((first | refine x4 (hK _ ?_) | refine x6 (hK _ _ j5 ?_)); clear hK K)); (first | show AWP _ _ _ _ _ | ((try simp only [j7]); first | show loopQ _ _ _ _ _ _ | show cutQ _ _ _ _ | show AWP _ _ _ _ _))) | ((first | refine x8 [] rfl ?_ | refine j8 [] rfl ?_); simp (disch := omega) only [go_sem, seval, hd, cb, ruleD]; (repeat (first | refine ⟨by omega, ?_⟩ | refine ⟨True.intro, ?_⟩)))))
  (refine j17 (z17 [(1000, 5)] rfl rfl rfl rfl rfl rfl (sc) (fun _ => rfl) (j13 (by repeat (first | exact trivial | refine ⟨rfl, ?_⟩)) (by kernel_rfl)) (fun _ => (j13 (by repeat (first | exact trivial | refine ⟨rfl, ?_⟩)) (by kernel_rfl)))) ?_); rintro ⟨y,hy,hy2⟩; simp (disch := omega) only [go_sem, seval, hd, cb, ruleD]
  (repeat (first | apply j0 | refine q8 rfl ?_ | refine z8 rfl ?_ | apply x7 | (refine j4 fun K hK => ?_) | (refine x5 fun K hK => ?_) | ((first | apply j6 | apply z7 | ((first | refine x4 (hK _ ?_) | refine x6 (hK _ _ j5 ?_)); clear hK K)); (first | show AWP _ _ _ _ _ | ((try simp only [j7]); first | show loopQ _ _ _ _ _ _ | show cutQ _ _ _ _ | show AWP _ _ _ _ _))) | ((first | refine x8 [] rfl ?_ | refine j8 [] rfl ?_); simp (disch := omega) only [go_sem, seval, hd, cb, ruleD]; (repeat (first | refine ⟨by omega, ?_⟩ | refine ⟨True.intro, ?_⟩)))))
  refine z87 4 5 m 1 m 3 _ rfl rfl ?_
  refine q16 4 _ (.p (.d (.sl 1 (behR l n).length (rowI (behR l n))))) rfl (j50 hrl.symm fun i hi => ?_) ?_
  ·unfold rowN rowI
   rw [hb hy hy2 i (by omega)]
  refine q10 ⟨_, ?_, rfl⟩; rw [Tryz.results66]; simp (disch := omega) only [ResVars, ResVar, ptrLoc, go_sem, seval, hd, cb, ruleD]
def doEq (x y : Rule) : Bool := x.kd == y.kd && (x.pt == y.pt && (x.tb == y.tb && x.st == y.st))
theorem z105 (x y : Rule) : eqI [x.kd, x.pt, x.tb, hi x.st.v, lo x.st.v, hi x.st.c, lo x.st.c] [y.kd, y.pt, y.tb, hi y.st.v, lo y.st.v, hi y.st.c, lo y.st.c] = doEq x y := by
 have h := z98 x.st y.st
 unfold doEq
 rw [← h]
 rfl
theorem len0 (l : List Cube) : ((l.length : Int) == 0) = l.isEmpty := by cases l <;> simp; omega
theorem x161 (p : List Cube) (c : Cube) (hp : p.length ≤ 1099511627776) : ACalls Tryz.prog 67 [.d (.sl 4 p.length (rowC p)), .d (.sl 4 1 fun i => [cb c].getD i [])]
  (· = [.d (.sl 4 (meetPV p [c]).length (rowC (meetPV p [c]))), .d (.v (.int .i64 (meetPE p [c])))]) := by
 have k := MeetP_c p [c] hp (by simp)
 exact j39 (.cons (z54 _) (.cons (q35 rfl fun i hi => z103 _ i hi) .nil)) k
theorem j161 {p : List Cube} {c : Cube} (hp : ∀ k ∈ p, k.sound = true) (hl : p.length ≤ 200) (hc : c.sound = true) : meetPE p [c] = 0 ∨ meetPE p [c] = 10 := by
 have h1 : soundP p = true := by
  unfold soundP; rw [Bool.and_eq_true, List.all_eq_true]; exact ⟨by simpa using hl, hp⟩
 have h2 : soundP [c] = true := by unfold soundP; simp [hc]
 unfold meetPE
 rw [h1, h2]
 simp only [Bool.and_self, if_true]
 rcases j158 (meetsP p [c]) with h | h
 ·exact .inl h
 ·exact .inr h.1
def spGo (l : List Rule) (n : Nat) : List Nat → List Cube → Bool → Bool × Int
 | [], p, b => (b && p.isEmpty, 0)
 | k :: r, p, b => if meetPE p [(l.getD k r0).mt] = 0 then (if (lessP [(l.getD k r0).mt] p).2 = 0 then spGo l n r (lessP [(l.getD k r0).mt] p).1 (b && ((meetPV p [(l.getD k r0).mt]).isEmpty || doEq (l.getD k r0) (l.getD n r0))) else (false, (lessP [(l.getD k r0).mt] p).2)) else (false, meetPE p [(l.getD k r0).mt])
def spareR (l : List Rule) (n : Nat) : Bool × Int := if (seenR l n).2 = 0 then spGo l n (behR l n) (seenR l n).1 true else (false, (seenR l n).2)
theorem wo_ok {l : List Rule} (hs : soundL l = true) : ∀ (ids : List Nat) (p : List Cube), (∀ n ∈ ids, n < l.length) → p.length ≤ 200 → (∀ k ∈ p, k.sound = true) → (woGo l ids p).2 = 0 → (woGo l ids p).1.length ≤ 200 ∧ ∀ k ∈ (woGo l ids p).1, k.sound = true
 | [], p, _, hl, hp, _ => ⟨hl, hp⟩
 |n :: r, p, hi, hl, hp, h => by
  unfold woGo at h ⊢
  split at h
  ·rename_i h0
   rw [if_pos h0]
   exact wo_ok hs r _ (fun k hk => hi k (List.mem_cons_of_mem _ hk)) (z42 _ _ hl) (z58 hp (z29 hs (hi n (List.mem_cons_self ..))) h0) h
  ·rename_i h0; exact absurd h h0
theorem x105 {l : List Rule} {n : Nat} (hn : n < l.length) (h : (seenR l n).2 = 0) : soundL l = true ∧ (seenR l n).1.length ≤ 200 ∧ ∀ k ∈ (seenR l n).1, k.sound = true := by
 unfold seenR withoutR at h ⊢
 split at h
 ·rename_i hs
  rw [if_pos hs]
  have := wo_ok hs ((orderR l).take ((orderR l).idxOf n)) [(l.getD n r0).mt] (fun k hk => x32 (List.mem_of_mem_take hk)) (by simp) (fun k hk => by simp at hk; subst hk; exact z29 hs hn) h
  exact ⟨hs, this⟩
 ·exact absurd h (by decide)
theorem q162 (l : List Rule) (n : Nat) (hn : n < l.length) : (seenR l n).2 = 0 ∨ (seenR l n).2 ≠ 0 ∧ ((seenR l n).2 != 0) = true := by
 by_cases h : (seenR l n).2 = 0
 ·exact .inl h
 ·exact .inr ⟨h, x14 h⟩
def spI (l : List Rule) (n : Nat) (R : Bool × Int) (s : {s : Nat × List Cube × Bool // s.1 ≤ (behR l n).length ∧ s.2.1.length ≤ 200 ∧ (∀ k ∈ s.2.1, k.sound = true) ∧ spGo l n ((behR l n).drop s.1) s.2.1 s.2.2 = R}) : ASt :=
 ⟨[(27, .p (.d (.v (.int .i64 (s.val.1 : Int))))), (26, .p (.d (.v (.int .i64 ((behR l n).length : Int))))), (25, .p (.d (.sl 1 (behR l n).length (rowI (behR l n))))), (8, .p (.d (.v (.bool s.val.2.2)))), (6, .p (.d (.sl 4 s.val.2.1.length (rowC s.val.2.1)))), (1, .p (.d (.v (.int .i64 (n : Int))))), (0, .p (.d (.sl 12 l.length (rowR l))))], []⟩
set_option maxRecDepth 100000 in
set_option maxHeartbeats 8000000 in
theorem j105 (l : List Rule) (n : Nat) (hn : n < l.length) (hl : l.length ≤ 1099511627776) : ACalls Tryz.prog 28 [.d (.sl 12 l.length (rowR l)), .d (.v (.int .i64 (n : Int)))] (· = [.d (.v (.bool (spareR l n).1)), .d (.v (.int .i64 (spareR l n).2))]) := by
 have ks := Seen_c l n hl hn
 have kb := z161 l n hn hl
 have hbm : ∀ k ∈ behR l n, k < l.length := fun k hk => ((x42 hn).1 hk).1
 have hbl : (behR l n).length ≤ l.length := by
  unfold behR; rw [List.length_drop, j28]; omega
 have hok := x105 hn
 obtain ⟨R, hR⟩ : ∃ R, spareR l n = R := ⟨_, rfl⟩
 rw [hR]
 unfold spareR at hR
 rcases q162 l n hn with he | ⟨he, heb⟩
 ·obtain ⟨hs, h200, hps⟩ := hok he
  rw [if_pos he] at hR
  rw [he] at ks
  generalize (seenR l n).1 = p at *
  refine z12 Tryz.func28 rfl (by decide +kernel) (by rw [Tryz.ntmps28]; simp) ?_; rw [Tryz.ntmps28]; simp only [frOf]
  (repeat (first | apply j0 | refine q8 rfl ?_ | refine z8 rfl ?_ | apply x7 | (refine j4 fun K hK => ?_) | (refine x5 fun K hK => ?_) | ((first | apply j6 | apply z7 | ((first | refine x4 (hK _ ?_) | refine x6 (hK _ _ j5 ?_)); clear hK K)); (first | show AWP _ _ _ _ _ | ((try simp only [j7]); first | show loopQ _ _ _ _ _ _ | show cutQ _ _ _ _ | show AWP _ _ _ _ _))) | ((first | refine j10 rfl rfl rfl ?_ | refine q11 rfl rfl rfl ?_); simp (disch := omega) only [go_sem, seval, hd, cb, ruleD, q15]; (first | refine ⟨_, ks, ?_⟩ | refine ⟨_, kb, ?_⟩)) | ((first | refine x8 [] rfl ?_ | refine j8 [] rfl ?_); simp (disch := omega) only [go_sem, seval, hd, cb, ruleD, q15]; (repeat (first | refine ⟨by omega, ?_⟩ | refine ⟨True.intro, ?_⟩)))))
  refine x13 (spI l n R) (fun s => (behR l n).length - s.val.1) ⟨(0, p, true), by simp, h200, hps, by rw [List.drop_zero]; exact hR⟩ ?_ (fun s => ?_)
  ·unfold spI
   refine Weak.list ?_ ?_; (all_goals simp (disch := omega) only [AllF, AllL, x11, j11, z11, exists_eq_left', go_sem, seval, hd, cb, ruleD, q15]); (all_goals (repeat' (with_reducible apply And.intro))); (all_goals try (first | exact q9 rfl | (refine q12 ?_; omega) | (refine q9 ?_; simp; done)))
  obtain ⟨⟨i, p, b⟩, h1, h2, h3, hG⟩ := s
  unfold spI
  simp only [] at h1 h2 h3 hG
  have rn := z20 l n
  by_cases hi : i < (behR l n).length
  ·rw [j31 (behR l n) i 0 hi] at hG
   have r1 := x68 (behR l n) i
   have hkl := hbm _ (z24 hi 0)
   generalize (behR l n).getD i 0 = k at hG r1 hkl
   have rk := z20 l k
   have hms := z29 hs hkl
   unfold spGo at hG
   generalize l.getD n r0 = z at hG rn
   generalize l.getD k r0 = x at hG rk hms
   have km := x161 p x.mt (by omega)
   have kl := q103 p x.mt h3 h2 hms
   have kk := z58 (p := p) h3 hms
   have kn := z42 [x.mt] p h2
   have ko := j102 [x.mt] p
   have mo := j161 (p := p) h3 h2 hms
   have qd := z105 x z
   generalize lessP [x.mt] p = u at hG kl kk kn ko
   obtain ⟨u, e⟩ := u
   generalize meetPV p [x.mt] = m at hG km
   generalize meetPE p [x.mt] = me at hG km mo
   generalize doEq x z = de at hG qd
   simp only [] at hG kl kk kn ko
   have qm := len0 m
   unfold cb at kl km
   rcases mo with rfl | rfl
   ·rw [if_pos rfl] at hG
    generalize m.isEmpty = em at hG qm
    have out : ∀ b', (if e = 0 then spGo l n ((behR l n).drop (i + 1)) u b' else (false, e)) = R → (e = 0 ∧ spGo l n ((behR l n).drop (i + 1)) u b' = R) ∨ (e = 10 ∧ R = (false, 10)) := by
     intro b' hb
     rcases ko with rfl | ⟨rfl, _⟩
     ·exact .inl ⟨rfl, by rw [if_pos rfl] at hb; exact hb⟩
     ·exact .inr ⟨rfl, by rw [if_neg (by decide)] at hb; exact hb.symm⟩
    rcases out _ hG with ⟨rfl, hG⟩ | ⟨rfl, rfl⟩
    ·cases b with
     |false =>
      (repeat (first | apply j0 | refine q8 rfl ?_ | refine z8 rfl ?_ | apply x7 | (refine j4 fun K hK => ?_) | (refine x5 fun K hK => ?_) | ((first | apply j6 | apply z7 | ((first | refine x4 (hK _ ?_) | refine x6 (hK _ _ j5 ?_)); clear hK K)); (first | show AWP _ _ _ _ _ | ((try simp only [j7]); first | show loopQ _ _ _ _ _ _ | show cutQ _ _ _ _ | show AWP _ _ _ _ _))) | ((first | refine j10 rfl rfl rfl ?_ | refine q11 rfl rfl rfl ?_); simp (disch := omega) only [go_sem, seval, hd, cb, ruleD, q15, r1, rk, rn, qm]; (first | refine ⟨_, km, ?_⟩ | refine ⟨_, kl, ?_⟩)) | ((first | refine x8 [] rfl ?_ | refine j8 [] rfl ?_); simp (disch := omega) only [go_sem, seval, hd, cb, ruleD, q15, r1, rk, rn, qm]; (repeat (first | refine ⟨by omega, ?_⟩ | refine ⟨True.intro, ?_⟩)))))
      refine ⟨⟨(i + 1, u, false), by simp only []; omega, kn, kk rfl, hG⟩, by simp only []; omega, ?_⟩
      refine Weak.list ?_ ?_; (all_goals simp (disch := omega) only [AllF, AllL, x11, j11, z11, exists_eq_left', go_sem, seval, hd, cb, ruleD, q15, r1, rk, rn, qm]); (all_goals (repeat' (with_reducible apply And.intro))); (all_goals try (first | exact q9 rfl | (refine q12 ?_; omega) | (refine q9 ?_; simp; done)))
     |true =>
      cases em with
      |true =>
       (repeat (first | apply j0 | refine q8 rfl ?_ | refine z8 rfl ?_ | apply x7 | (refine j4 fun K hK => ?_) | (refine x5 fun K hK => ?_) | ((first | apply j6 | apply z7 | ((first | refine x4 (hK _ ?_) | refine x6 (hK _ _ j5 ?_)); clear hK K)); (first | show AWP _ _ _ _ _ | ((try simp only [j7]); first | show loopQ _ _ _ _ _ _ | show cutQ _ _ _ _ | show AWP _ _ _ _ _))) | ((first | refine j10 rfl rfl rfl ?_ | refine q11 rfl rfl rfl ?_); simp (disch := omega) only [go_sem, seval, hd, cb, ruleD, q15, r1, rk, rn, qm]; (first | refine ⟨_, km, ?_⟩ | refine ⟨_, kl, ?_⟩)) | ((first | refine x8 [] rfl ?_ | refine j8 [] rfl ?_); simp (disch := omega) only [go_sem, seval, hd, cb, ruleD, q15, r1, rk, rn, qm]; (repeat (first | refine ⟨by omega, ?_⟩ | refine ⟨True.intro, ?_⟩)))))
       refine ⟨⟨(i + 1, u, true), by simp only []; omega, kn, kk rfl, hG⟩, by simp only []; omega, ?_⟩
       refine Weak.list ?_ ?_; (all_goals simp (disch := omega) only [AllF, AllL, x11, j11, z11, exists_eq_left', go_sem, seval, hd, cb, ruleD, q15, r1, rk, rn, qm]); (all_goals (repeat' (with_reducible apply And.intro))); (all_goals try (first | exact q9 rfl | (refine q12 ?_; omega) | (refine q9 ?_; simp; done)))
      |false =>
       (repeat (first | apply j0 | refine q8 rfl ?_ | refine z8 rfl ?_ | apply x7 | (refine j4 fun K hK => ?_) | (refine x5 fun K hK => ?_) | ((first | apply j6 | apply z7 | ((first | refine x4 (hK _ ?_) | refine x6 (hK _ _ j5 ?_)); clear hK K)); (first | show AWP _ _ _ _ _ | ((try simp only [j7]); first | show loopQ _ _ _ _ _ _ | show cutQ _ _ _ _ | show AWP _ _ _ _ _))) | ((first | refine j10 rfl rfl rfl ?_ | refine q11 rfl rfl rfl ?_); simp (disch := omega) only [go_sem, seval, hd, cb, ruleD, q15, r1, rk, rn, qm, qd]; (first | refine ⟨_, km, ?_⟩ | refine ⟨_, kl, ?_⟩)) | ((first | refine x8 [] rfl ?_ | refine j8 [] rfl ?_); simp (disch := omega) only [go_sem, seval, hd, cb, ruleD, q15, r1, rk, rn, qm, qd]; (repeat (first | refine ⟨by omega, ?_⟩ | refine ⟨True.intro, ?_⟩)))))
       refine ⟨⟨(i + 1, u, de), by simp only []; omega, kn, kk rfl, hG⟩, by simp only []; omega, ?_⟩
       refine Weak.list ?_ ?_; (all_goals simp (disch := omega) only [AllF, AllL, x11, j11, z11, exists_eq_left', go_sem, seval, hd, cb, ruleD, q15, r1, rk, rn, qm, qd]); (all_goals (repeat' (with_reducible apply And.intro))); (all_goals try (first | exact q9 rfl | (refine q12 ?_; omega) | (refine q9 ?_; simp; done)))
    ·cases b with
     |false =>
      (repeat (first | apply j0 | refine q8 rfl ?_ | refine z8 rfl ?_ | apply x7 | (refine j4 fun K hK => ?_) | (refine x5 fun K hK => ?_) | ((first | apply j6 | apply z7 | ((first | refine x4 (hK _ ?_) | refine x6 (hK _ _ j5 ?_)); clear hK K)); (first | show AWP _ _ _ _ _ | ((try simp only [j7]); first | show loopQ _ _ _ _ _ _ | show cutQ _ _ _ _ | show AWP _ _ _ _ _))) | ((first | refine j10 rfl rfl rfl ?_ | refine q11 rfl rfl rfl ?_); simp (disch := omega) only [go_sem, seval, hd, cb, ruleD, q15, r1, rk, rn, qm]; (first | refine ⟨_, km, ?_⟩ | refine ⟨_, kl, ?_⟩)) | ((first | refine x8 [] rfl ?_ | refine j8 [] rfl ?_); simp (disch := omega) only [go_sem, seval, hd, cb, ruleD, q15, r1, rk, rn, qm]; (repeat (first | refine ⟨by omega, ?_⟩ | refine ⟨True.intro, ?_⟩)))))
      refine q10 ⟨_, ?_, rfl⟩; rw [Tryz.results28]; simp (disch := omega) only [ResVars, ResVar, ptrLoc, go_sem, seval, hd, cb, ruleD, q15, r1, rk, rn, qm]
     |true =>
      cases em with
      |true =>
       (repeat (first | apply j0 | refine q8 rfl ?_ | refine z8 rfl ?_ | apply x7 | (refine j4 fun K hK => ?_) | (refine x5 fun K hK => ?_) | ((first | apply j6 | apply z7 | ((first | refine x4 (hK _ ?_) | refine x6 (hK _ _ j5 ?_)); clear hK K)); (first | show AWP _ _ _ _ _ | ((try simp only [j7]); first | show loopQ _ _ _ _ _ _ | show cutQ _ _ _ _ | show AWP _ _ _ _ _))) | ((first | refine j10 rfl rfl rfl ?_ | refine q11 rfl rfl rfl ?_); simp (disch := omega) only [go_sem, seval, hd, cb, ruleD, q15, r1, rk, rn, qm]; (first | refine ⟨_, km, ?_⟩ | refine ⟨_, kl, ?_⟩)) | ((first | refine x8 [] rfl ?_ | refine j8 [] rfl ?_); simp (disch := omega) only [go_sem, seval, hd, cb, ruleD, q15, r1, rk, rn, qm]; (repeat (first | refine ⟨by omega, ?_⟩ | refine ⟨True.intro, ?_⟩)))))
       refine q10 ⟨_, ?_, rfl⟩; rw [Tryz.results28]; simp (disch := omega) only [ResVars, ResVar, ptrLoc, go_sem, seval, hd, cb, ruleD, q15, r1, rk, rn, qm]
      |false =>
       (repeat (first | apply j0 | refine q8 rfl ?_ | refine z8 rfl ?_ | apply x7 | (refine j4 fun K hK => ?_) | (refine x5 fun K hK => ?_) | ((first | apply j6 | apply z7 | ((first | refine x4 (hK _ ?_) | refine x6 (hK _ _ j5 ?_)); clear hK K)); (first | show AWP _ _ _ _ _ | ((try simp only [j7]); first | show loopQ _ _ _ _ _ _ | show cutQ _ _ _ _ | show AWP _ _ _ _ _))) | ((first | refine j10 rfl rfl rfl ?_ | refine q11 rfl rfl rfl ?_); simp (disch := omega) only [go_sem, seval, hd, cb, ruleD, q15, r1, rk, rn, qm, qd]; (first | refine ⟨_, km, ?_⟩ | refine ⟨_, kl, ?_⟩)) | ((first | refine x8 [] rfl ?_ | refine j8 [] rfl ?_); simp (disch := omega) only [go_sem, seval, hd, cb, ruleD, q15, r1, rk, rn, qm, qd]; (repeat (first | refine ⟨by omega, ?_⟩ | refine ⟨True.intro, ?_⟩)))))
       refine q10 ⟨_, ?_, rfl⟩; rw [Tryz.results28]; simp (disch := omega) only [ResVars, ResVar, ptrLoc, go_sem, seval, hd, cb, ruleD, q15, r1, rk, rn, qm, qd]
   ·rw [if_neg (by decide)] at hG
    subst hG
    (repeat (first | apply j0 | refine q8 rfl ?_ | refine z8 rfl ?_ | apply x7 | (refine j4 fun K hK => ?_) | (refine x5 fun K hK => ?_) | ((first | apply j6 | apply z7 | ((first | refine x4 (hK _ ?_) | refine x6 (hK _ _ j5 ?_)); clear hK K)); (first | show AWP _ _ _ _ _ | ((try simp only [j7]); first | show loopQ _ _ _ _ _ _ | show cutQ _ _ _ _ | show AWP _ _ _ _ _))) | ((first | refine j10 rfl rfl rfl ?_ | refine q11 rfl rfl rfl ?_); simp (disch := omega) only [go_sem, seval, hd, cb, ruleD, q15, r1, rk, rn]; (first | refine ⟨_, km, ?_⟩)) | ((first | refine x8 [] rfl ?_ | refine j8 [] rfl ?_); simp (disch := omega) only [go_sem, seval, hd, cb, ruleD, q15, r1, rk, rn]; (repeat (first | refine ⟨by omega, ?_⟩ | refine ⟨True.intro, ?_⟩)))))
    refine q10 ⟨_, ?_, rfl⟩; rw [Tryz.results28]; simp (disch := omega) only [ResVars, ResVar, ptrLoc, go_sem, seval, hd, cb, ruleD, q15, r1, rk, rn]
  ·have : i = (behR l n).length := by omega
   subst this
   rw [List.drop_length] at hG
   unfold spGo at hG
   subst hG
   have q0 := len0 p
   cases b with
   |false =>
    (repeat (first | apply j0 | refine q8 rfl ?_ | refine z8 rfl ?_ | apply x7 | (refine j4 fun K hK => ?_) | (refine x5 fun K hK => ?_) | ((first | apply j6 | apply z7 | ((first | refine x4 (hK _ ?_) | refine x6 (hK _ _ j5 ?_)); clear hK K)); (first | show AWP _ _ _ _ _ | ((try simp only [j7]); first | show loopQ _ _ _ _ _ _ | show cutQ _ _ _ _ | show AWP _ _ _ _ _))) | ((first | refine x8 [] rfl ?_ | refine j8 [] rfl ?_); simp (disch := omega) only [go_sem, seval, hd, cb, ruleD, q15, q0, Bool.true_and, Bool.false_and]; (repeat (first | refine ⟨by omega, ?_⟩ | refine ⟨True.intro, ?_⟩)))))
    refine q10 ⟨_, ?_, rfl⟩; rw [Tryz.results28]; simp (disch := omega) only [ResVars, ResVar, ptrLoc, go_sem, seval, hd, cb, ruleD, q15, q0, Bool.true_and, Bool.false_and]
   |true =>
    (repeat (first | apply j0 | refine q8 rfl ?_ | refine z8 rfl ?_ | apply x7 | (refine j4 fun K hK => ?_) | (refine x5 fun K hK => ?_) | ((first | apply j6 | apply z7 | ((first | refine x4 (hK _ ?_) | refine x6 (hK _ _ j5 ?_)); clear hK K)); (first | show AWP _ _ _ _ _ | ((try simp only [j7]); first | show loopQ _ _ _ _ _ _ | show cutQ _ _ _ _ | show AWP _ _ _ _ _))) | ((first | refine x8 [] rfl ?_ | refine j8 [] rfl ?_); simp (disch := omega) only [go_sem, seval, hd, cb, ruleD, q15, q0, Bool.true_and, Bool.false_and]; (repeat (first | refine ⟨by omega, ?_⟩ | refine ⟨True.intro, ?_⟩)))))
    refine q10 ⟨_, ?_, rfl⟩; rw [Tryz.results28]; simp (disch := omega) only [ResVars, ResVar, ptrLoc, go_sem, seval, hd, cb, ruleD, q15, q0, Bool.true_and, Bool.false_and]
 ·rw [if_neg he] at hR
  subst hR
  generalize seenR l n = S at *
  obtain ⟨p, e⟩ := S
  simp only [] at ks heb
  refine z12 Tryz.func28 rfl (by decide +kernel) (by rw [Tryz.ntmps28]; simp) ?_; rw [Tryz.ntmps28]; simp only [frOf]
  (repeat (first | apply j0 | refine q8 rfl ?_ | refine z8 rfl ?_ | apply x7 | (refine j4 fun K hK => ?_) | (refine x5 fun K hK => ?_) | ((first | apply j6 | apply z7 | ((first | refine x4 (hK _ ?_) | refine x6 (hK _ _ j5 ?_)); clear hK K)); (first | show AWP _ _ _ _ _ | ((try simp only [j7]); first | show loopQ _ _ _ _ _ _ | show cutQ _ _ _ _ | show AWP _ _ _ _ _))) | ((first | refine j10 rfl rfl rfl ?_ | refine q11 rfl rfl rfl ?_); simp (disch := omega) only [go_sem, seval, hd, cb, ruleD, q15, heb]; (first | refine ⟨_, ks, ?_⟩)) | ((first | refine x8 [] rfl ?_ | refine j8 [] rfl ?_); simp (disch := omega) only [go_sem, seval, hd, cb, ruleD, q15, heb]; (repeat (first | refine ⟨by omega, ?_⟩ | refine ⟨True.intro, ?_⟩)))))
  refine q10 ⟨_, ?_, rfl⟩; rw [Tryz.results28]; simp (disch := omega) only [ResVars, ResVar, ptrLoc, go_sem, seval, hd, cb, ruleD, q15, heb]
end Go.Proofs.YtemcdefpihkfpaaGreat
namespace Go.Proofs.YtemcdefpihkfpaaGreat.AL
open Go
def LLes (M M2 : List (Nat × LV)) : Prop := ∀ l X2, look M2 l = some X2 → ∃ X, look M l = some X ∧ LLe X X2
theorem LLes.nil (M : List (Nat × LV)) : LLes M [] := fun l X2 h => by simp [look] at h
theorem LLes.cons {M M2 : List (Nat × LV)} {l : Nat} {X X2 : LV} (h : look M l = some X) (hl : LLe X X2) (t : LLes M M2) : LLes M ((l, X2) :: M2) := fun k Y hk => by
 simp only [look] at hk
 split at hk
 ·rename_i e; subst e; cases hk; exact ⟨X, h, hl⟩
 ·exact t k Y hk
theorem LLe.refl (X : LV) : LLe X X := of_eq_true (z11 X)
theorem MCalls.out {P : Program} {f : FuncId} {xs : List AV} {L M M2 : List (Nat × LV)} {rs : List AV} (h : MCalls P f xs L (fun r M' => r = rs ∧ M' = M)) (hM : LLes M M2) : MCalls P f xs L (fun r M' => r = rs ∧ M' = M2) := by
 intro w g vs hz hr hl
 have key := h w g vs hz hr hl
 have fin : ∀ v w', (∃ h' r M', (r = rs ∧ M' = M) ∧ RelRA w' h' v r ∧ LocsOK (fun _ => True) w' h' M' ∧ Chg L M' w g w' h') → ∃ h' r M', (r = rs ∧ M' = M2) ∧ RelRA w' h' v r ∧ LocsOK (fun _ => True) w' h' M' ∧ Chg L M' w g w' h' := by
  rintro v w' ⟨h', r, M', ⟨rfl, rfl⟩, h1, h2, h3⟩
  refine ⟨h', _, M2, ⟨rfl, rfl⟩, h1, ⟨fun l X2 hX => ?_, fun l l' X X' b hne e1 e2 hb hb' => ?_⟩, ⟨h3.below, h3.gam, h3.gz, h3.keep, h3.ρ, h3.up, fun b hb => ?_⟩⟩
  ·obtain ⟨X, e1, e2⟩ := hM l X2 hX
   exact (z31 e2 (h2.1 l X e1)).1
  ·obtain ⟨Y, y1, y2⟩ := hM l X e1
   obtain ⟨Y', z1, z2⟩ := hM l' X' e2
   rw [(z31 y2 (h2.1 l Y y1)).2] at hb
   rw [(z31 z2 (h2.1 l' Y' z1)).2] at hb'
   exact h2.2 l l' Y Y' b hne y1 z1 hb hb'
  ·obtain ⟨l, X2, e1, e2⟩ := hb
   obtain ⟨Y, y1, y2⟩ := hM l X2 e1
   rw [(z31 y2 (h2.1 l Y y1)).2] at e2
   exact h3.own b ⟨l, Y, y1, e2⟩
 unfold CallRes at *
 split at key
 ·exact key.mono fun e w' ⟨v, he, hh⟩ => ⟨v, he, fin v w' hh⟩
 ·exact fin _ _ key
 ·exact key.elim
end Go.Proofs.YtemcdefpihkfpaaGreat.AL
namespace Go.Proofs.YtemcdefpihkfpaaGreat.AL
open Go.RowKit
variable {P : Program}
def WeakX (A : ASt) (S : ASt → Prop) : Prop := ∀ (w0 : Base) (g0 : Nat → Nat) (nt : Nat) (h : Gh) (a : Act) (w : World), Rel w0 g0 nt A h a w → ∃ A' h', S A' ∧ Rel w0 g0 nt A' h' a w
theorem q106 {nt : Nat} {c : Code} {Q : Exit → ASt → Prop} {A : ASt} {S : ASt → Prop} (hw : WeakX A S) (h : ∀ A', S A' → AWP P nt c Q A') : AWP P nt c Q A := by
 rw [q66]
 intro w0 g0 h' a w r
 obtain ⟨A', h2, hs, r'⟩ := hw w0 g0 nt h' a w r
 exact q66.1 (h A' hs) w0 g0 h2 a w r'
def noM : Nat → Option Ent := fun _ => none
theorem Weak.arena (A : ASt) (hn : look A.locs 1999 = none) : Weak A ⟨A.fr, (1999, .raw noM) :: A.locs⟩ := by
 intro w0 g0 nt h a w r
 have hin : ∀ b, ¬ inB h 1999 (.raw noM) b := fun b hb => hb rfl
 refine ⟨h, r.size, r.defers, r.fr, fun l L hL => ?_, fun l l' L L' b hne hL hL' hb hb' => ?_, r.ext, r.pin⟩
 ·simp only [look] at hL
  split at hL
  ·rename_i e; subst e; cases hL; intro b E hb; cases hb
  ·exact r.locs l L hL
 ·simp only [look] at hL hL'
  split at hL
  ·rename_i e; subst e; cases hL; exact hin b hb
  ·split at hL'
   ·rename_i e; subst e; cases hL'; exact hin b hb'
   ·exact r.sep l l' L L' b hne hL hL' hb hb'
theorem z106 {nt : Nat} {c : Code} {Q : Exit → ASt → Prop} {A : ASt} (hn : look A.locs 1999 = none) (h : AWP P nt c Q ⟨A.fr, (1999, .raw noM) :: A.locs⟩) : AWP P nt c Q A := q18 (Weak.arena A hn) h
def PackR (M : Nat → Option Ent) (e : TypeId) (sz n : Nat) (f : Nat → List Dat) (v : Value) (M' : Nat → Option Ent) : Prop :=
 (n = 0 ∧ v = .slice none 0 0 ∧ M' = M) ∨ ∃ b c, n ≤ c ∧ M b = none ∧ v = .slice (some ⟨b, 0, none⟩) n c ∧ M' = setM M b (some ⟨e, sz, c, n, f⟩)
theorem x58 {l : Nat} {L : List (Nat × LV)} {k : Nat} {X : LV} (h : look (dropL l L) k = some X) : k ≠ l ∧ look L k = some X := by
 rw [j20] at h
 split at h
 ·cases h
 ·exact ⟨‹_›, h⟩
theorem Rel.into {w0 : Base} {g0 : Nat → Nat} {nt : Nat} {A : ASt} {h : Gh} {a : Act} {w : World} (r : Rel w0 g0 nt A h a w) {l b : Nat} {X : LV} {M : Nat → Option Ent} {E : Ent} {fr : List (Nat × AV)}
  (hl : look A.locs l = some X) (hM : look A.locs 1999 = some (.raw M)) (hne : l ≠ 1999) (hb : inB h l X b) (hO : w0.O b) (hE : EntOK w h.g b E) (hg : h.g b = 0)
  (hfr : ∀ t x, look fr t = some x → RelA w h (a.tmps.getD t undef) x) : M b = none ∧ Rel w0 g0 nt ⟨fr, (1999, .raw (setM M b (some E))) :: dropL l A.locs⟩ h a w := by
 have hMb : M b = none := by
  have := r.sep l 1999 X _ b hne hl hM hb
  simp only [inB] at this
  exact Classical.byContradiction fun e => this e
 have old : ∀ k L, look ((1999, LV.raw (setM M b (some E))) :: dropL l A.locs) k = some L → (k = 1999 ∧ L = .raw (setM M b (some E))) ∨ (k ≠ 1999 ∧ k ≠ l ∧ look A.locs k = some L) := by
  intro k L hk
  simp only [look] at hk
  split at hk
  ·rename_i e; cases hk; exact .inl ⟨e.symm, rfl⟩
  ·rename_i e
   obtain ⟨k1, k2⟩ := x58 hk
   exact .inr ⟨fun e' => e e'.symm, k1, k2⟩
 have hin : ∀ b', inB h 1999 (.raw (setM M b (some E))) b' → b' = b ∨ inB h 1999 (.raw M) b' := by
  intro b' hb'
  simp only [inB, setM] at hb' ⊢
  split at hb'
  ·exact .inl ‹_›
  ·exact .inr hb'
 refine ⟨hMb, r.size, r.defers, hfr, fun k L hk => ?_, fun k k' L L' b' hkk hk hk' hb1 hb2 => ?_, r.ext, r.pin⟩
 ·rcases old k L hk with ⟨rfl, rfl⟩ | ⟨_, _, h3⟩
  ·intro b' E' hE'
   simp only [setM] at hE'
   split at hE'
   ·rename_i e; subst e; cases hE'; exact ⟨hO, hE, hg⟩
   ·exact r.locs 1999 _ hM b' E' hE'
  ·exact r.locs k L h3
 ·rcases old k L hk with ⟨rfl, rfl⟩ | ⟨n1, n2, h3⟩ <;> rcases old k' L' hk' with ⟨rfl, rfl⟩ | ⟨n1', n2', h3'⟩
  ·exact hkk rfl
  ·rcases hin b' hb1 with rfl | hb1
   ·exact r.sep l k' X L' b' (fun e => n2' e.symm) hl h3' hb hb2
   ·exact r.sep 1999 k' _ L' b' (fun e => n1' e.symm) hM h3' hb1 hb2
  ·rcases hin b' hb2 with rfl | hb2
   ·exact r.sep l k X L b' (fun e => n2 e.symm) hl h3 hb hb1
   ·exact r.sep 1999 k _ L b' (fun e => n1 e.symm) hM h3 hb2 hb1
  ·exact r.sep k k' L L' b' hkk h3 h3' hb1 hb2
theorem WeakX.packRow (A : ASt) (t l gen sz n : Nat) (e : TypeId) (f : Nat → List Dat) (M : Nat → Option Ent) (ht : look A.fr t = some (.ow l gen sz n)) (hl : look A.locs l = some (.own e sz n gen f)) (hM : look A.locs 1999 = some (.raw M)) (hne : l ≠ 1999) :
  WeakX A (fun A' => ∃ v M', PackR M e sz n f v M' ∧ A' = ⟨(t, .p (.d (.v v))) :: A.fr, (1999, .raw M') :: dropL l A.locs⟩) := by
 intro w0 g0 nt h a w r
 have hL := r.locs l _ hl
 obtain ⟨q1, ⟨va, vc, q2, q2'⟩, q3⟩ := r.fr t _ ht
 have hv := q3 hL.1
 have hfr : ∀ v, a.tmps.getD t undef = v → v.oneCell' = true → ∀ u y, look ((t, AV.p (.d (.v v))) :: A.fr) u = some y → RelA w h (a.tmps.getD u undef) y := by
  intro v hv h1 u y hy
  simp only [look] at hy
  split at hy
  ·rename_i e; subst e; cases hy; rw [hv]; exact x18 h1
  ·exact r.fr u y hy
 by_cases hn : (h.κ l).ownBlock = none
 ·obtain ⟨n0, hk⟩ : n = 0 ∧ h.κ l = .slice none 0 0 := by
   obtain ⟨_, ⟨xs, ⟨_, ⟨h0, h1⟩ | ⟨gb, cap, cur, h0, _⟩⟩, _⟩, _⟩ := hL
   ·exact ⟨h1, h0⟩
   ·rw [h0] at hn; simp [Value.ownBlock] at hn
  subst n0
  refine ⟨_, h, ⟨.slice none 0 0, M, .inl ⟨rfl, rfl, rfl⟩, rfl⟩, r.size, r.defers, hfr _ (hv.trans hk) rfl, fun k L hk => ?_, fun k k' L L' b' hkk hk hk' => ?_, r.ext, r.pin⟩
  ·simp only [look] at hk
   split at hk
   ·rename_i e; subst e; cases hk; exact r.locs 1999 _ hM
   ·exact r.locs k L (x58 hk).2
  ·have old : ∀ k L, look ((1999, LV.raw M) :: dropL l A.locs) k = some L → look A.locs k = some L := by
    intro k L hk
    simp only [look] at hk
    split at hk
    ·rename_i e; subst e; cases hk; exact hM
    ·exact (x58 hk).2
   exact r.sep k k' L L' b' hkk (old k L hk) (old k' L' hk')
 ·obtain ⟨b, hb⟩ := Option.ne_none_iff_exists'.1 hn
  obtain ⟨cap, cur, c1, c2, c3, c4, c5, c6, c7, c8⟩ := j48 hL hb
  obtain ⟨m1, m2⟩ := r.into hl hM hne (E := ⟨e, sz, cap, n, f⟩) (b := b) (by simp [inB, hb]) c7 ⟨cur, c2, c5, c3, c4, c8⟩ c6 (hfr _ (hv.trans c1) rfl)
  exact ⟨_, h, ⟨_, _, .inr ⟨b, cap, c3, m1, rfl, rfl⟩, rfl⟩, m2⟩
end Go.Proofs.YtemcdefpihkfpaaGreat.AL
namespace Go.Proofs.YtemcdefpihkfpaaGreat.AL
open Go.RowKit
variable {P : Program}
def RCalls (P : Program) (f : FuncId) (xs : List AV) (L : List (Nat × LV)) (x : AV) : Prop :=
 ∀ (w : World) (h : Gh) (vs : List Value), GZ w h.g → RelAs w h vs xs → LocsOK (fun _ => True) w h L →
  CallRes P (fun v w' => ∃ g', Ext w h.g w' g' ∧ RelA w' { h with g := g' } v x) ((callFunc f vs.toArray).run P w)
inductive XAV : AV → Prop
 | is (u : Value) : XAV (.is (· = u))
 | mp (l : Nat) : XAV (.mp l)
theorem XAV.same {x : AV} (hx : XAV x) {w w' : World} {h h' : Gh} (hρ : ∀ l ∈ x.mentions, h'.ρ l = h.ρ l) {v v' : Value} (r : RelA w h v x) (r' : RelA w' h' v' x) : v' = v := by
 cases hx with
 | is u => exact (show v' = u from r').trans (show v = u from r).symm
 |mp l =>
  have e1 : v = .map (some (h.ρ l)) := r
  have e2 : v' = .map (some (h'.ρ l)) := r'
  rw [e1, e2, hρ l (by simp [AV.mentions])]
inductive XLV : LV → Prop
 | cells (e : TypeId) (cs : List AV) (h : ∀ c ∈ cs, XAV c) : XLV (.cells e cs)
 | obj (o : Obj) : XLV (.obj o)
theorem XLV.same {X : LV} (hx : XLV X) {O : Nat → Prop} {w w' : World} {h h' : Gh} {l : Nat} (hρl : h'.ρ l = h.ρ l) (hρ : ∀ k ∈ X.mentions, h'.ρ k = h.ρ k) (r : LocOK O w h l X) (r' : LocOK O w' h' l X) {b : Nat} (hb : inB h l X b) :
  w'.heap[b]? = w.heap[b]? ∧ h'.g b = h.g b := by
 cases hx with
 |cells e cs hcs =>
  obtain ⟨arr, _, h2, h3, h4, h5⟩ := r
  obtain ⟨arr', _, k2, k3, k4, k5⟩ := r'
  simp [inB] at hb
  subst hb
  rw [hρl] at k2 k4
  refine ⟨?_, by rw [h4, k4]⟩
  rw [h2, k2]
  congr 2
  apply Array.ext
  ·rw [h3, k3]
  ·intro i hi1 hi2
   have hic : i < cs.length := by omega
   have e1 := (h5 i arr[i] cs[i] (by simp [hi2]) (List.getElem?_eq_getElem hic)).1
   have e2 := (k5 i arr'[i] cs[i] (by simp [hi1]) (List.getElem?_eq_getElem hic)).1
   exact (hcs _ (List.getElem_mem hic)).same (fun k hk => hρ k (List.mem_flatMap.2 ⟨_, List.getElem_mem hic, hk⟩)) e1 e2
 |obj o =>
  obtain ⟨_, h2, h4⟩ := r
  obtain ⟨_, k2, k4⟩ := r'
  simp [inB] at hb
  subst hb
  rw [hρl] at k2 k4
  exact ⟨by rw [h2, k2], by rw [h4, k4]⟩
end Go.Proofs.YtemcdefpihkfpaaGreat.AL
namespace Go.Proofs.YtemcdefpihkfpaaGreat.AL
open Go.RowKit
variable {P : Program}
inductive RdD (M : Nat → Option Ent) : Dat → Dat → Prop
 | refl (d : Dat) : RdD M d d
 | sl (sz n : Nat) (f f' : Nat → List Dat) (hl : ∀ i, i < n → (f' i).length = (f i).length) (hr : ∀ (i j : Nat) (x y : Dat), i < n → (f i)[j]? = some x → (f' i)[j]? = some y → RdD M x y) : RdD M (.sl sz n f) (.sl sz n f')
 | row (b n c : Nat) (E : Ent) (f' : Nat → List Dat) (hM : M b = some E) (hn : n ≤ E.n) (hc : n ≤ c) (hl : ∀ i, i < n → (f' i).length = (E.f i).length)
   (hr : ∀ (i j : Nat) (x y : Dat), i < n → (E.f i)[j]? = some x → (f' i)[j]? = some y → RdD M x y) : RdD M (.v (.slice (some ⟨b, 0, none⟩) n c)) (.sl E.sz n f')
 | nil (a : Option Addr) (c sz : Nat) (f : Nat → List Dat) : RdD M (.v (.slice a 0 c)) (.sl sz 0 f)
 | box (b : Nat) (E : Ent) (ds : List Dat) (hM : M b = some E) (hn : 0 < E.n) (hl : ds.length = E.sz)
   (hr : ∀ (j : Nat) (x y : Dat), (E.f 0)[j]? = some x → ds[j]? = some y → RdD M x y) : RdD M (.v (.pointer (some ⟨b, 0, none⟩))) (.bx ds)
inductive RdP (M : Nat → Option Ent) : PV → PV → Prop
 | refl (x : PV) : RdP M x x
 | d {x y : Dat} (h : RdD M x y) : RdP M (.d x) (.d y)
 | agg (cs ds : List Dat) (hl : cs.length = ds.length) (hr : ∀ (j : Nat) x y, cs[j]? = some x → ds[j]? = some y → RdD M x y) : RdP M (.agg cs) (.agg ds)
def iced (g : Nat → Nat) (M : Nat → Option Ent) (b : Nat) : Nat := match M b with
 | some E => E.cap * E.sz
 | none => g b
def lowered (g : Nat → Nat) (M : Nat → Option Ent) (b : Nat) : Nat := match M b with
 | some _ => 0
 | none => g b
structure Arena (w : World) (g : Nat → Nat) (M : Nat → Option Ent) : Prop where
 ok : ∀ b E, M b = some E → EntOK w g b E
 g0 : ∀ b E, M b = some E → g b = 0
section
variable {w : World} {g : Nat → Nat} {M : Nat → Option Ent}
theorem x36 (hA : Arena w g M) : Keep w g w (iced g M) := by
 refine ⟨fun b => ?_, fun b o _ => rfl⟩
 unfold iced
 split
 ·rename_i E hE; rw [hA.g0 b E hE]; exact Nat.zero_le _
 ·exact Nat.le_refl _
theorem Arena.lt (hA : Arena w g M) {b : Nat} {E : Ent} (h : M b = some E) : b < w.heap.size := by
 obtain ⟨cur, hh, _⟩ := hA.ok b E h; exact (Array.getElem?_eq_some_iff.1 hh).1
theorem j58 (hA : Arena w g M) (hz : GZ w g) : GZ w (iced g M) := by
 intro b hb
 unfold iced
 split
 ·rename_i E hE; have := hA.lt hE; omega
 ·exact hz b hb
theorem x106 (hA : Arena w g M) {x y : Dat} (h : RdD M x y) : ∀ {v : Value}, RelD w g v x → RelD w (iced g M) v y := by
 induction h with
 | refl d => intro v r; exact r.keep (x36 hA)
 |sl sz n f f' hl hr ih =>
  intro v r
  cases r with
  | sl0 a c => exact .sl0 _ _ _ _
  |sl b off _ c _ _ u hn hl2 hc hg hr2 =>
   refine .sl b off n c sz f' u hn (fun i hi => (hl i hi).trans (hl2 i hi)) hc (Nat.le_trans hg ((x36 hA).gam b)) (fun i j y hi hy => ?_)
   have hj : j < (f i).length := by rw [← hl i hi]; exact (List.getElem?_eq_some_iff.1 hy).1
   exact ih i j _ y hi (List.getElem?_eq_getElem hj) hy (hr2 i j _ hi (List.getElem?_eq_getElem hj))
 |row b n c E f' hM hn hc hl hr ih =>
  intro v r
  cases r
  obtain ⟨cur, q1, q2, q3, q4, q5⟩ := hA.ok b E hM
  have hnE : n * E.sz ≤ E.n * E.sz := Nat.mul_le_mul_right _ hn
  have hcE : E.n * E.sz ≤ E.cap * E.sz := Nat.mul_le_mul_right _ q3
  refine .sl b 0 n c E.sz f' (fun i j => (cur[i * E.sz + j]?).getD undef) hc (fun i hi => (hl i hi).trans (q5.1 i (by omega))) (fun i j hi hj => ?_) ?_ (fun i j y hi hy => ?_)
  ·obtain ⟨u, d, k1, k2, k3⟩ := q5.at (i := i) (j := j) (by omega) hj
   rw [Nat.zero_add, j18 q1, k2]; rfl
  ·simp only [iced, hM]; omega
  ·have hj : j < (E.f i).length := by rw [← hl i hi]; exact (List.getElem?_eq_some_iff.1 hy).1
   obtain ⟨u, k1, k2⟩ := q5.cell (i := i) (j := j) (by omega) (by rw [← q5.1 i (by omega)]; exact hj) (List.getElem?_eq_getElem hj)
   rw [k1]
   exact ih i j _ y hi (List.getElem?_eq_getElem hj) hy k2
 | nil a c sz f => intro v r; cases r; exact .sl0 _ _ _ _
 |box b E ds hM hn hl hr ih =>
  intro v r
  cases r
  obtain ⟨cur, q1, q2, q3, q4, q5⟩ := hA.ok b E hM
  have hcE : 1 * E.sz ≤ E.cap * E.sz := Nat.mul_le_mul_right _ (by omega)
  have hf := q5.1 0 hn
  refine .bx b 0 ds (fun j => (cur[j]?).getD undef) (fun j hj => ?_) ?_ (fun j y hy => ?_)
  ·obtain ⟨u, d, k1, k2, k3⟩ := q5.at (i := 0) (j := j) hn (by omega)
   rw [Nat.zero_mul, Nat.zero_add] at k2
   rw [Nat.zero_add, j18 q1, k2]; rfl
  ·simp only [iced, hM]; omega
  ·have hj : j < (E.f 0).length := by rw [hf, ← hl]; exact (List.getElem?_eq_some_iff.1 hy).1
   obtain ⟨u, k1, k2⟩ := q5.cell (i := 0) (j := j) hn (by rw [← hf]; exact hj) (List.getElem?_eq_getElem hj)
   rw [Nat.zero_mul, Nat.zero_add] at k1
   rw [k1]
   exact ih j _ y (List.getElem?_eq_getElem hj) hy k2
theorem z162 (hA : Arena w g M) {x y : PV} (h : RdP M x y) {v : Value} (r : RelP w g v x) : RelP w (iced g M) v y := by
 cases h with
 | refl x => exact r.keep (x36 hA)
 | d h => cases r with | d _ _ r => exact .d _ _ (x106 hA h r)
 |agg cs ds hl hr =>
  cases r with
  |agg vs _ hl2 hr2 =>
   refine .agg vs ds (hl2.trans hl) fun j v y hv hy => ?_
   have hj : j < cs.length := by rw [hl]; exact (List.getElem?_eq_some_iff.1 hy).1
   exact x106 hA (hr j _ y (List.getElem?_eq_getElem hj) hy) (hr2 j v _ hv (List.getElem?_eq_getElem hj))
end
def Dat.flat : Dat → Prop
 | .v _ => True
 | _ => False
def PV.flat : PV → Prop
 | .d x => x.flat
 | .agg cs => ∀ c ∈ cs, c.flat
 | _ => False
def AV.flat : AV → Prop
 | .p x => x.flat
 | .gr .. => False
 | .tup xs => ∀ x ∈ xs, x.flat
 | .cl .. => False
 | .ag _ => False
 | _ => True
def LV.flat : LV → Prop
 | .cells _ cs => ∀ c ∈ cs, c.flat
 | .own _ _ n _ f => ∀ i, i < n → ∀ d ∈ f i, d.flat
 | _ => False
theorem j71 {w w' : World} {g g' : Nat → Nat} {v : Value} {d : Dat} (hd : d.flat) (r : RelD w g v d) : RelD w' g' v d := by
 cases r with
 | v _ h => exact .v _ h
 | _ => exact hd.elim
theorem q72 {w w' : World} {g g' : Nat → Nat} {v : Value} {x : PV} (hx : x.flat) (r : RelP w g v x) : RelP w' g' v x := by
 cases r with
 | d _ _ r => exact .d _ _ (j71 hx r)
 | agg vs cs hl hr => exact .agg vs cs hl fun j v x hv hc => j71 ((show ∀ c ∈ cs, c.flat from hx) x (List.mem_of_getElem? hc)) (hr j v x hv hc)
 | _ => exact hx.elim
theorem j106 {w w' : World} {h h' : Gh} {v : Value} {x : AV} (hx : x.flat) (e1 : h'.ρ = h.ρ) (e2 : h'.κ = h.κ) (e3 : h'.μ = h.μ) (r : RelA w h v x) : RelA w' h' v x := by
 cases x with
 | p x => exact q72 hx r
 | gr => exact hx.elim
 | cl => exact hx.elim
 | ag => exact hx.elim
 |tup xs =>
  obtain ⟨vs, hv, hl, hr⟩ := r
  exact ⟨vs, hv, hl, fun j v x hv hc => q72 ((show ∀ x ∈ xs, x.flat from hx) x (List.mem_of_getElem? hc)) (hr j v x hv hc)⟩
 | _ => first | exact r | (simp only [RelA, RelOw, e1, e2, e3] at *; exact r)
theorem x162 {O : Nat → Prop} {w : World} {h h' : Gh} {l : Nat} {X : LV} (hX : X.flat) (e1 : h'.ρ = h.ρ) (e2 : h'.κ = h.κ) (e3 : h'.μ = h.μ) (hg : ∀ b, inB h l X b → h'.g b = h.g b) (r : LocOK O w h l X) : LocOK O w h' l X := by
 cases X with
 |cells e cs =>
  obtain ⟨arr, h1, h2, h3, h4, h5⟩ := r
  refine ⟨arr, by rw [e1]; exact h1, by rw [e1]; exact h2, h3, by rw [e1, hg _ rfl]; exact h4, fun i v x hv hx => ⟨j106 ((show ∀ c ∈ cs, c.flat from hX) x (List.mem_of_getElem? hx)) e1 e2 e3 (h5 i v x hv hx).1, (h5 i v x hv hx).2⟩⟩
 |own e sz n gen f =>
  obtain ⟨h1, ⟨xs, h2, h3⟩, h4⟩ := r
  refine ⟨by rw [e3]; exact h1, ⟨xs, by rw [e2]; exact h2, h3.1, fun i j d hi hj hd => ?_⟩, fun b hb => ?_⟩
  ·obtain ⟨u, k1, k2⟩ := h3.2 i j d hi hj hd
   exact ⟨u, k1, j71 ((show ∀ i, i < n → ∀ d ∈ f i, d.flat from hX) i hi d (List.mem_of_getElem? hd)) k2⟩
  ·rw [e2] at hb
   rw [hg b (by simpa [inB] using hb)]
   exact h4 b hb
 | _ => exact hX.elim
def RdA (M : Nat → Option Ent) : AV → AV → Prop
 | .p x, .p y => RdP M x y
 | x, y => x = y
theorem RdA.refl (M : Nat → Option Ent) (x : AV) : RdA M x x := by cases x <;> first | rfl | exact RdP.refl _
theorem RdA.p {M : Nat → Option Ent} {x y : PV} (h : RdP M x y) : RdA M (.p x) (.p y) := h
inductive RdAs (M : Nat → Option Ent) : List AV → List AV → Prop
 | nil : RdAs M [] []
 | cons {x y : AV} {xs ys : List AV} (h : RdA M x y) (t : RdAs M xs ys) : RdAs M (x :: xs) (y :: ys)
theorem RdAs.refl (M : Nat → Option Ent) : ∀ xs, RdAs M xs xs
 | [] => .nil
 | x :: xs => .cons (RdA.refl M x) (RdAs.refl M xs)
theorem q107 {w : World} {h : Gh} {M : Nat → Option Ent} (hA : Arena w h.g M) {v : Value} {x : AV} (r : RelA w h v x) : RelA w { h with g := iced h.g M } v x := by
 have k := x36 hA
 have kc : ∀ (vs : List Value) (cs : List CV), RelCs w h vs cs → RelCs w { h with g := iced h.g M } vs cs := by
  intro vs cs r
  refine ⟨r.1, fun j v c hv hc => ?_⟩
  have r := r.2 j v c hv hc
  cases c with
  | p x => exact RelP.keep k r
  | _ => exact r
 cases x with
 | p x => exact RelP.keep k r
 | gr l gen sz n f => exact ⟨r.1.keep k, r.2⟩
 | cl f a b => obtain ⟨vs, us, e, h1, h2⟩ := r; exact ⟨vs, us, e, kc _ _ h1, kc _ _ h2⟩
 | ag cs => obtain ⟨vs, h1, h2, h3⟩ := r; exact ⟨vs, h1, kc _ _ h2, h3⟩
 | tup xs => obtain ⟨vs, hv, hr⟩ := r; exact ⟨vs, hv, hr.keep k⟩
 | _ => exact r
theorem z107 {w : World} {h : Gh} {M : Nat → Option Ent} (hA : Arena w h.g M) {x y : AV} (hx : RdA M x y) {v : Value} (r : RelA w h v x) : RelA w { h with g := iced h.g M } v y := by
 cases x with
 |p x =>
  cases y with
  | p y => exact z162 hA hx r
  | _ => cases hx
 |_ =>
  unfold RdA at hx
  subst hx
  exact q107 hA r
theorem x107 {w : World} {h : Gh} {M : Nat → Option Ent} (hA : Arena w h.g M) {xs ys : List AV} (hx : RdAs M xs ys) : ∀ {vs : List Value}, RelAs w h vs xs → RelAs w { h with g := iced h.g M } vs ys := by
 induction hx with
 | nil => intro vs r; exact ⟨r.1, fun j v x hv hx => by simp at hx⟩
 |cons hx t ih =>
  intro vs r
  cases vs with
  | nil => simp [RelAs] at r
  |cons v vs =>
   have r2 := ih r.tail
   refine ⟨by simpa using r2.1, fun j u z hu hz => ?_⟩
   cases j with
   | zero => simp at hu hz; subst hu; subst hz; exact z107 hA hx (r.2 0 v _ rfl rfl)
   | succ j => exact r2.2 j u z (by simpa using hu) (by simpa using hz)
theorem z72 {O : Nat → Prop} {w : World} {h : Gh} {l : Nat} {M : Nat → Option Ent} (k : LocOK O w h l (.raw M)) : Arena w h.g M := ⟨fun b E hb => (k b E hb).2.1, fun b E hb => (k b E hb).2.2⟩
theorem j162 {B : Nat → Prop} {w : World} {h : Gh} {M : Nat → Option Ent} (hA : Arena w h.g M) (hz : GZ w h.g) (hO : ∀ b E, M b = some E → B b) : Trans B w h w { h with g := iced h.g M } (fun b => M b ≠ none) none false := by
 refine ⟨BelowS.refl _ _, fun b _ hb => ⟨rfl, ?_⟩, x36 hA, j58 hA hz, fun b hb => ?_, fun _ _ => rfl, fun _ _ => ⟨rfl, rfl⟩, fun l hl => by cases hl⟩
 ·have : M b = none := Classical.byContradiction hb
  simp [iced, this]
 ·have : M b = none := by
   cases hM : M b with
   | none => rfl
   | some E => exact absurd (hO b E hM) hb
  simp [iced, this]
theorem LocOK.iced {B : Nat → Prop} {w : World} {h : Gh} {M : Nat → Option Ent} (hA : Arena w h.g M) (hz : GZ w h.g) (hO : ∀ b E, M b = some E → B b) {l : Nat} {X : LV} (hX : ∀ b, inB h l X b → M b = none) (k : LocOK B w h l X) : LocOK B w { h with g := iced h.g M } l X :=
 (LocOK.trans (j162 hA hz hO) (by simp) (fun hf => by cases hf) (fun b hb => by simp [hX b hb]) k).1
theorem j42 {g : Nat → Nat} {M : Nat → Option Ent} {b : Nat} (h : M b = none) : lowered g M b = g b := by simp [lowered, h]
theorem q43 {h : Gh} {g : Nat → Nat} {l : Nat} {X : LV} : inB { h with g := g } l X = inB h l X := by cases X <;> rfl
theorem MCalls.borrow {f : FuncId} {xs ys : List AV} {L : List (Nat × LV)} {Q : List AV → List (Nat × LV) → Prop} {M : Nat → Option Ent} (hc : MCalls P f ys L Q) (hx : RdAs M xs ys) (hL9 : look L 1999 = none)
  (hQ : ∀ rs L', Q rs L' → (∀ x ∈ rs, x.flat ∧ 1999 ∉ x.mentions) ∧ look L' 1999 = none ∧ ∀ l X, look L' l = some X → X.flat ∧ 1999 ∉ X.mentions) :
  MCalls P f xs ((1999, .raw M) :: L) (fun rs L2 => ∃ L', Q rs L' ∧ L2 = (1999, .raw M) :: L') := by
 intro w h vs hz hr hl
 have hA := z72 (hl.1 1999 (.raw M) (by simp [look]))
 let h2 : Gh := { h with g := iced h.g M }
 have hsub : ∀ l X, look L l = some X → look ((1999, LV.raw M) :: L) l = some X ∧ l ≠ 1999 := by
  intro l X hX
  have : l ≠ 1999 := fun e => by subst e; rw [hL9] at hX; cases hX
  exact ⟨by simp only [look]; rw [if_neg (fun e => this e.symm)]; exact hX, this⟩
 have hfree : ∀ l X, look L l = some X → ∀ b, inB h l X b → M b = none := by
  intro l X hX b hb
  obtain ⟨k1, k2⟩ := hsub l X hX
  have := hl.2 l 1999 X (.raw M) b k2 k1 (by simp [look]) hb
  simp only [inB] at this
  exact Classical.byContradiction fun e => this e
 have key := hc w h2 vs (j58 hA hz) (x107 hA hx hr) ⟨fun l X hX => LocOK.iced hA hz (fun _ _ _ => trivial) (hfree l X hX) (hl.1 l X (hsub l X hX).1), fun l l' X X' b hne e1 e2 hb hb' => by
  rw [q43] at hb hb'
  exact hl.2 l l' X X' b hne (hsub l X e1).1 (hsub l' X' e2).1 hb hb'⟩
 have hown2 : ∀ b, ownB h2 L b → ownB h ((1999, .raw M) :: L) b := by
  rintro b ⟨l, X, hX, hb⟩
  rw [q43] at hb
  exact ⟨l, X, (hsub l X hX).1, hb⟩
 have hownM : ∀ b, M b ≠ none → ownB h ((1999, .raw M) :: L) b := fun b hb => ⟨1999, .raw M, by simp [look], hb⟩
 have hnoM : ∀ b, M b ≠ none → b < w.heap.size ∧ ¬ ownB h2 L b := by
  intro b hb
  cases hE : M b with
  | none => exact absurd hE hb
  |some E =>
   refine ⟨hA.lt hE, ?_⟩
   rintro ⟨l, X, hX, hb2⟩
   rw [q43] at hb2
   rw [hfree l X hX b hb2] at hE; cases hE
 have fin : ∀ v w', (∃ h' rs L', Q rs L' ∧ RelRA w' h' v rs ∧ LocsOK (fun _ => True) w' h' L' ∧ Chg L L' w h2 w' h') →
   ∃ h' rs L2, (∃ L', Q rs L' ∧ L2 = (1999, LV.raw M) :: L') ∧ RelRA w' h' v rs ∧ LocsOK (fun _ => True) w' h' L2 ∧ Chg ((1999, .raw M) :: L) L2 w h w' h' := by
  rintro v w' ⟨h', rs, L', hq, h1, h3, h4⟩
  obtain ⟨f1, f2, f3⟩ := hQ rs L' hq
  let h4' : Gh := { h' with g := lowered h'.g M }
  let h5 : Gh := ⟨lowered h'.g M, fun l => if l = 1999 then h.ρ l else h'.ρ l, fun l => if l = 1999 then h.κ l else h'.κ l, fun l => if l = 1999 then h.μ l else h'.μ l⟩
  have h45 : ∀ l, l ≠ 1999 → h4'.ρ l = h5.ρ l ∧ h4'.κ l = h5.κ l ∧ h4'.μ l = h5.μ l := fun l hl => by simp [h4', h5, hl]
  have h45m : ∀ (ms : List Nat), 1999 ∉ ms → ∀ l ∈ ms, h4'.ρ l = h5.ρ l ∧ h4'.κ l = h5.κ l ∧ h4'.μ l = h5.μ l := fun ms hms l hl => h45 l fun e => hms (e ▸ hl)
  have hkeep : Keep w h.g w' h5.g := by
   refine ⟨fun b => ?_, fun b o ho => ?_⟩
   ·show h.g b ≤ lowered h'.g M b
    unfold lowered
    cases hE : M b with
    | none => have := h4.keep.gam b; simpa [h2, iced, hE] using this
    | some E => simp [hA.g0 b E hE]
   ·cases hE : M b with
    | none => exact h4.keep.cell b o (by simpa [h2, iced, hE] using ho)
    | some E => rw [hA.g0 b E hE] at ho; omega
  have hL'M : ∀ l X, look L' l = some X → ∀ b, inB h' l X b → M b = none := by
   intro l X hX b hb
   rcases h4.own b ⟨l, X, hX, hb⟩ with hge | ho
   ·cases hE : M b with
    | none => rfl
    | some E => have := hA.lt hE; omega
   ·exact Classical.byContradiction fun e => (hnoM b e).2 ho
  have hsub' : ∀ l X, look ((1999, LV.raw M) :: L') l = some X → (l = 1999 ∧ X = .raw M) ∨ (l ≠ 1999 ∧ look L' l = some X) := by
   intro l X hX
   simp only [look] at hX
   split at hX
   ·rename_i e; cases hX; exact .inl ⟨e.symm, rfl⟩
   ·rename_i e; exact .inr ⟨fun e' => e e'.symm, hX⟩
  have hlo : ∀ l X, look L' l = some X → LocOK (fun _ => True) w' h5 l X ∧ inB h5 l X = inB h' l X := fun l X hX =>
   have hl9 : l ≠ 1999 := fun e => by subst e; rw [f2] at hX; cases hX
   ⟨z91 (h := h4') (k := h5) rfl (h45 l hl9) (h45m _ (f3 l X hX).2) (x162 (h := h') (f3 l X hX).1 rfl rfl rfl (fun b hb => j42 (hL'M l X hX b hb)) (h3.1 l X hX)), (x91 (h45 l hl9)).symm.trans q43⟩
  refine ⟨h5, rs, _, ⟨L', hq, rfl⟩, ?_, ⟨fun l X hX => ?_, fun l l' X X' b hne e1 e2 hb hb' => ?_⟩, ?_⟩
  ·have one : ∀ u x, x ∈ rs → RelA w' h' u x → RelA w' h5 u x := fun u x hx r => x53 (h := h4') (k := h5) rfl (h45m _ (f1 x hx).2) (j106 (h := h') (f1 x hx).1 rfl rfl rfl r)
   have many : ∀ us, RelAs w' h' us rs → RelAs w' h5 us rs := fun us r => ⟨r.1, fun j u x hu hx => one u x (List.mem_of_getElem? hx) (r.2 j u x hu hx)⟩
   match rs, h1, one, many with
   | [x], h1, one, _ => exact one v x (by simp) h1
   | [], ⟨us, e, r⟩, _, many => exact ⟨us, e, many us r⟩
   | _ :: _ :: _, ⟨us, e, r⟩, _, many => exact ⟨us, e, many us r⟩
  ·rcases hsub' l X hX with ⟨rfl, rfl⟩ | ⟨_, hX'⟩
   ·intro b E hE
    have hb := hnoM b (by simp [hE])
    refine ⟨trivial, EntOK.keep hkeep (h4.below.block b hb.1 hb.2) (hA.ok b E hE), ?_⟩
    show lowered h'.g M b = 0
    simp [lowered, hE]
   ·exact (hlo l X hX').1
  ·rcases hsub' l X e1 with ⟨rfl, rfl⟩ | ⟨_, hX'⟩ <;> rcases hsub' l' X' e2 with ⟨e', rfl⟩ | ⟨_, hX2⟩
   ·exact hne e'.symm
   ·rw [(hlo l' X' hX2).2] at hb'
    exact hb (hL'M l' X' hX2 b hb')
   ·rw [(hlo l X hX').2] at hb
    exact hb' (hL'M l X hX' b hb)
   ·rw [(hlo l X hX').2] at hb
    rw [(hlo l' X' hX2).2] at hb'
    exact h3.2 l l' X X' b hne hX' hX2 hb hb'
  ·refine ⟨⟨h4.below.os, h4.below.tape, h4.below.output, h4.below.size, fun k hk hno => h4.below.block k hk fun ho => hno (hown2 k ho)⟩, fun b hb hno => ?_, fun b hb => ?_, hkeep, fun l X hX => ?_, fun l X hX => ?_, fun b ⟨l, X, hX, hb⟩ => ?_⟩
   ·have hM : M b = none := Classical.byContradiction fun e => hno (hownM b e)
    show lowered h'.g M b = h.g b
    rw [j42 hM, h4.gam b hb fun ho => hno (hown2 b ho)]
    simp [h2, iced, hM]
   ·have hM : M b = none := by
     cases hE : M b with
     | none => rfl
     | some E => have := hA.lt hE; have := h4.below.size; omega
    show lowered h'.g M b = 0
    rw [j42 hM]; exact h4.gz b hb
   ·simp only [look] at hX
    split at hX
    ·rename_i e; subst e; simp [h5]
    ·rename_i e
     have := h4.ρ l X hX
     simp only [h5, if_neg (fun e' => e (Eq.symm e'))]; exact this
   ·simp only [look] at hX
    split at hX
    ·rename_i e; subst e; exact .inr (by simp [h5])
    ·rename_i e
     have := h4.up l X hX
     simp only [h5, if_neg (fun e' => e (Eq.symm e'))]; exact this
   ·rcases hsub' l X hX with ⟨rfl, rfl⟩ | ⟨_, hX'⟩
    ·exact .inr (hownM b hb)
    ·rw [(hlo l X hX').2] at hb
     rcases h4.own b ⟨l, X, hX', hb⟩ with hge | ho
     ·exact .inl hge
     ·exact .inr (hown2 b ho)
 unfold CallRes at *
 split at key
 ·exact key.mono fun e w' ⟨v, he, hh⟩ => ⟨v, he, fin v w' hh⟩
 ·exact fin _ _ key
 ·exact key.elim
theorem j107 {w : World} {h : Gh} {vs : List Value} {xs : List PV} (r : RelAs w h vs (xs.map .p)) : RelPs w h.g vs xs :=
 ⟨by simpa using r.1, fun j v x hv hx => r.2 j v (.p x) hv (by rw [List.getElem?_map, hx]; rfl)⟩
theorem q163 {w : World} {h : Gh} {v : Value} {rs : List PV} (r : RelR w h.g v rs) : RelRA w h v (rs.map .p) := by
 have many : ∀ us, RelPs w h.g us rs → RelAs w h us (rs.map .p) := fun us r => ⟨by simpa using r.1, fun j u x hu hx => by
  rw [List.getElem?_map] at hx
  cases hj : rs[j]? with
  | none => rw [hj] at hx; cases hx
  | some y => rw [hj] at hx; cases hx; exact r.2 j u y hu hj⟩
 match rs, r, many with
 | [x], r, _ => exact r
 | [], ⟨us, e, r⟩, many => exact ⟨us, e, many us r⟩
 | _ :: _ :: _, ⟨us, e, r⟩, many => exact ⟨us, e, many us r⟩
theorem z163 {f : FuncId} {xs rs : List PV} (hc : ACalls P f xs (· = rs)) : MCalls P f (xs.map .p) [] (fun r L => r = rs.map .p ∧ L = []) := by
 intro w h vs hz hr hl
 have key := q24.1 hc w h.g vs hz (j107 hr)
 have fin : ∀ v w', (∃ g' rs', Ext w h.g w' g' ∧ rs' = rs ∧ RelR w' g' v rs') → ∃ h' r L', (r = rs.map .p ∧ L' = []) ∧ RelRA w' h' v r ∧ LocsOK (fun _ => True) w' h' L' ∧ Chg [] L' w h w' h' := by
  rintro v w' ⟨g', _, he, rfl, hR⟩
  refine ⟨{ h with g := g' }, _, [], ⟨rfl, rfl⟩, q163 hR, ⟨fun l X hX => (by cases hX), fun l l' X X' b _ hX => (by cases hX)⟩, ?_⟩
  exact ⟨he.belowS, fun b hb _ => he.gam b hb, he.gz, he.keep hz, fun l X hX => (by cases hX), fun l X hX => (by cases hX), fun b ⟨l, X, hX, _⟩ => (by cases hX)⟩
 unfold CallRes at *
 split at key
 ·exact key.mono fun e w' ⟨v, he, hh⟩ => ⟨v, he, fin v w' hh⟩
 ·exact fin _ _ key
 ·exact key.elim
inductive RdPs (M : Nat → Option Ent) : List PV → List PV → Prop
 | nil : RdPs M [] []
 | cons {x y : PV} {xs ys : List PV} (h : RdP M x y) (t : RdPs M xs ys) : RdPs M (x :: xs) (y :: ys)
theorem RdPs.as {M : Nat → Option Ent} {xs ys : List PV} (h : RdPs M xs ys) : RdAs M (xs.map .p) (ys.map .p) := by
 induction h with
 | nil => exact .nil
 | cons h t ih => exact .cons (RdA.p h) ih
theorem ACalls.borrow {f : FuncId} {xs ys rs : List PV} {M : Nat → Option Ent} (hc : ACalls P f ys (· = rs)) (hx : RdPs M xs ys) (hr : ∀ r ∈ rs, r.flat) :
  MCalls P f (xs.map .p) [(1999, .raw M)] (fun r L => r = rs.map .p ∧ L = [(1999, .raw M)]) := by
 refine (MCalls.borrow (z163 hc) hx.as rfl ?_).mono ?_
 ·rintro r L ⟨rfl, rfl⟩
  refine ⟨fun x hx => ?_, rfl, fun l X hX => by cases hX⟩
  obtain ⟨y, hy, rfl⟩ := List.mem_map.1 hx
  exact ⟨hr y hy, by simp [AV.mentions]⟩
 ·rintro r L ⟨L', ⟨rfl, rfl⟩, rfl⟩; exact ⟨rfl, rfl⟩
theorem RCalls.borrow {f : FuncId} {xs ys : List PV} {y : PV} {M : Nat → Option Ent} (hc : ACalls P f ys (· = [y])) (hx : RdPs M xs ys) (hy : y.flat) : RCalls P f (xs.map .p) [(1999, .raw M)] (.p y) := by
 intro w h vs hz hr hl
 have hA := z72 (hl.1 1999 (.raw M) (by simp [look]))
 have hr2 := x107 hA hx.as hr
 have key := q24.1 hc w (iced h.g M) vs (j58 hA hz) (j107 hr2)
 have fin : ∀ v w', (∃ g' rs', Ext w (iced h.g M) w' g' ∧ rs' = [y] ∧ RelR w' g' v rs') → ∃ g', Ext w h.g w' g' ∧ RelA w' { h with g := g' } v (.p y) := by
  rintro v w' ⟨g', _, he, rfl, hR⟩
  refine ⟨lowered g' M, ⟨he.below, fun b hb => ?_, fun b hb => ?_⟩, q72 hy hR⟩
  ·cases hE : M b with
   | none => rw [j42 hE, he.gam b hb]; simp [iced, hE]
   | some E => simp [lowered, hE, hA.g0 b E hE]
  ·cases hE : M b with
   | none => rw [j42 hE]; exact he.gz b hb
   | some E => simp [lowered, hE]
 unfold CallRes at *
 split at key
 ·exact key.mono fun e w' ⟨v, he, hh⟩ => ⟨v, he, fin v w' hh⟩
 ·exact fin _ _ key
 ·exact key.elim
theorem Weak.melt (A : ASt) (M : Nat → Option Ent) (t : Nat) (x y : AV) (hM : look A.locs 1999 = some (.raw M)) (ht : look A.fr t = some x) (hx : RdA M x y) : Weak A ⟨(t, y) :: A.fr, dropL 1999 A.locs⟩ := by
 intro w0 g0 nt h a w r
 have hA := z72 (r.locs 1999 _ hM)
 have hO : ∀ b E, M b = some E → w0.O b := fun b E hb => (r.locs 1999 _ hM b E hb).1
 have hfree : ∀ l L, look (dropL 1999 A.locs) l = some L → look A.locs l = some L ∧ ∀ b, inB h l L b → M b = none := by
  intro l L hl
  obtain ⟨k1, k2⟩ := x58 hl
  refine ⟨k2, fun b hb => ?_⟩
  have := r.sep l 1999 L (.raw M) b k1 k2 hM hb
  simp only [inB] at this
  exact Classical.byContradiction fun e => this e
 refine ⟨{ h with g := iced h.g M }, r.size, r.defers, fun u z hz => ?_, fun l L hl => LocOK.iced hA r.gz hO (hfree l L hl).2 (r.locs l L (hfree l L hl).1), fun l l' L L' b hne hl hl' hb hb' => ?_, ⟨r.ext.below, fun b hb => ?_, j58 hA r.gz, r.ext.keep.trans (x36 hA)⟩, r.pin⟩
 ·simp only [look] at hz
  split at hz
  ·rename_i e; subst e; cases hz; exact z107 hA hx (r.fr t x ht)
  ·exact q107 hA (r.fr u z hz)
 ·rw [q43] at hb hb'
  exact r.sep l l' L L' b hne (hfree l L hl).1 (hfree l' L' hl').1 hb hb'
 ·have hMb : M b = none := by
   cases hE : M b with
   | none => rfl
   | some E => exact absurd (hO b E hE) hb
  show iced h.g M b = g0 b
  rw [← r.ext.gam b hb]
  simp [iced, hMb]
end Go.Proofs.YtemcdefpihkfpaaGreat.AL
namespace Go.Proofs.YtemcdefpihkfpaaGreat.AL
open Go.RowKit
def GrowsM (M M2 : Nat → Option Ent) : Prop := ∀ b E, M b = some E → M2 b = some E
theorem GrowsM.refl (M : Nat → Option Ent) : GrowsM M M := fun _ _ h => h
theorem GrowsM.trans {M M2 M3 : Nat → Option Ent} (h : GrowsM M M2) (k : GrowsM M2 M3) : GrowsM M M3 := fun b E e => k b E (h b E e)
def HoldR (M : Nat → Option Ent) (e : TypeId) (sz n : Nat) (f : Nat → List Dat) (v : Value) : Prop :=
 (n = 0 ∧ ∃ a c, v = .slice a 0 c) ∨ ∃ b c cap f', v = .slice (some ⟨b, 0, none⟩) n c ∧ n ≤ c ∧ M b = some ⟨e, sz, cap, n, f'⟩ ∧ ∀ k, k < n → f' k = f k
theorem HoldR.mono {M M2 : Nat → Option Ent} {e : TypeId} {sz n : Nat} {f : Nat → List Dat} {v : Value} (hM : GrowsM M M2) (h : HoldR M e sz n f v) : HoldR M2 e sz n f v := by
 rcases h with h | ⟨b, c, cap, f', h1, h2, h3, h4⟩
 ·exact .inl h
 ·exact .inr ⟨b, c, cap, f', h1, h2, hM b _ h3, h4⟩
theorem PackR.grows {M M2 : Nat → Option Ent} {e : TypeId} {sz n : Nat} {f : Nat → List Dat} {v : Value} (h : PackR M e sz n f v M2) : GrowsM M M2 := by
 rcases h with ⟨_, _, rfl⟩ | ⟨b, c, _, h2, _, rfl⟩
 ·exact .refl _
 ·intro b' E hb'
  have : b' ≠ b := fun e => by rw [e, h2] at hb'; cases hb'
  rw [j37 _ _ this]; exact hb'
theorem HoldR.rd {M : Nat → Option Ent} {e : TypeId} {sz n : Nat} {f : Nat → List Dat} {v : Value} (h : HoldR M e sz n f v) : RdD M (.v v) (.sl sz n f) := by
 rcases h with ⟨rfl, a, c, rfl⟩ | ⟨b, c, cap, f', rfl, h2, h3, h4⟩
 ·exact .nil _ _ _ _
 ·refine .row b n c ⟨e, sz, cap, n, f'⟩ f h3 (Nat.le_refl _) h2 (fun i hi => by show (f i).length = (f' i).length; rw [h4 i hi]) fun i j x y hi hx hy => ?_
  simp only [] at hx
  rw [h4 i hi, hy] at hx
  cases hx
  exact .refl _
theorem HoldR.slice {M : Nat → Option Ent} {e : TypeId} {sz n : Nat} {f : Nat → List Dat} {v : Value} (h : HoldR M e sz n f v) : ∃ a c, v = .slice a n c := by
 rcases h with ⟨rfl, a, c, rfl⟩ | ⟨b, c, cap, f', rfl, _⟩
 ·exact ⟨_, _, rfl⟩
 ·exact ⟨_, _, rfl⟩
def rowVal (s : Nat → Value) : Nat → List Dat := fun i => [.v (s i)]
theorem x163 (s : Nat → Value) (i : Nat) : rowVal s i = [.v (s i)] := rfl
def updS (s : Nat → Value) (n : Nat) (v : Value) : Nat → Value := fun i => if i = n then v else s i
theorem q59 (s : Nat → Value) (n : Nat) (v : Value) : updS s n v n = v := by simp [updS]
theorem z43 (s : Nat → Value) {n i : Nat} (v : Value) (h : i ≠ n) : updS s n v i = s i := by simp [updS, h]
theorem j163 (s : Nat → Value) (v : Value) (i : Nat) (k : Nat) (hk : k < i + 1) : catF i (rowVal s) (fun j => [[Dat.v v]].getD j []) k = rowVal (updS s i v) k := by
 unfold catF rowVal
 split
 ·rw [z43 _ _ (by omega)]
 ·have : k = i := by omega
  subst this
  rw [Nat.sub_self, q59]; rfl
def RowsM (M : Nat → Option Ent) (e : TypeId) (sz : Nat) (len : Nat → Nat) (f : Nat → Nat → List Dat) (s : Nat → Value) (n : Nat) : Prop := ∀ i, i < n → HoldR M e sz (len i) (f i) (s i)
theorem RowsM.mono {M M2 : Nat → Option Ent} {e : TypeId} {sz : Nat} {len : Nat → Nat} {f : Nat → Nat → List Dat} {s : Nat → Value} {n : Nat} (hM : GrowsM M M2) (h : RowsM M e sz len f s n) : RowsM M2 e sz len f s n := fun i hi => (h i hi).mono hM
theorem RowsM.rd {M : Nat → Option Ent} {e : TypeId} {sz : Nat} {len : Nat → Nat} {f : Nat → Nat → List Dat} {s : Nat → Value} {n : Nat} (h : RowsM M e sz len f s n) {F : Nat → List Dat} (hF : ∀ i, i < n → F i = [.sl sz (len i) (f i)]) : RdD M (.sl 1 n (rowVal s)) (.sl 1 n F) := by
 refine .sl _ _ _ _ (fun i hi => by rw [hF i hi]; rfl) fun i j x y hi hx hy => ?_
 rw [hF i hi] at hy
 unfold rowVal at hx
 cases j with
 | zero => simp at hx hy; subst hx; subst hy; exact (h i hi).rd
 | succ j => simp at hx
def Shape (sz : Nat) (js : List Nat) (ds : List Dat) : Prop := ds.length = sz ∧ ∀ j, j ∈ js → ∃ x, ds[j]? = some (.v (.int .i64 x))
def HoldS (M : Nat → Option Ent) (e : TypeId) (sz : Nat) (js : List Nat) (n : Nat) (v : Value) : Prop :=
 (n = 0 ∧ ∃ a c, v = .slice a 0 c) ∨ ∃ b c cap f', v = .slice (some ⟨b, 0, none⟩) n c ∧ n ≤ c ∧ M b = some ⟨e, sz, cap, n, f'⟩ ∧ ∀ k, k < n → Shape sz js (f' k)
theorem Shape.put {sz : Nat} {js : List Nat} {ds : List Dat} (h : Shape sz js ds) (j : Nat) (hj : j < sz) (x : Int) : Shape sz js (ds.take j ++ [.v (.int .i64 x)] ++ ds.drop (j + [Dat.v (.int .i64 x)].length)) := by
 have hl := h.1
 have hg := j23 ds [.v (.int .i64 x)] j (by simp; omega)
 refine ⟨by simp; omega, fun q hq => ?_⟩
 rw [hg q]
 split
 ·rename_i hh
  have : q = j := by simp at hh; omega
  subst this
  exact ⟨x, by simp⟩
 ·exact h.2 q hq
theorem HoldS.store {M : Nat → Option Ent} {e : TypeId} {sz n : Nat} {js : List Nat} {v : Value} (h : HoldS M e sz js n v) {b0 : Nat} {E : Ent} (hE : M b0 = some E) (i j : Nat) (x : Int) (hj : j < E.sz) : HoldS (setM M b0 (some { E with f := putEl E.f i j [.v (.int .i64 x)] })) e sz js n v := by
 rcases h with h | ⟨b, c, cap, f', h1, h2, h3, h4⟩
 ·exact .inl h
 ·by_cases hb : b = b0
  ·subst hb
   rw [h3] at hE
   cases hE
   refine .inr ⟨b, c, cap, _, h1, h2, q25 _ _ _, fun k hk => ?_⟩
   unfold putEl
   split
   ·rename_i e; subst e; exact (h4 k hk).put j hj x
   ·exact h4 k hk
  ·exact .inr ⟨b, c, cap, f', h1, h2, by rw [j37 _ _ hb]; exact h3, h4⟩
def BorrowOK (lo : Option Nat) (E : Eff) : Prop := E.val.flat ∧ E.fresh = false ∧ lo ≠ some 1999 ∧ ∀ l L, E.upd = some (l, L) → L.flat ∧ lo = some l
theorem BorrowOK.own {l : Nat} {v : AV} {obl : Prop} {e : TypeId} {sz n g : Nat} {f : Nat → List Dat} (hv : v.flat) (hl : l ≠ 1999) (hf : ∀ i, i < n → ∀ d ∈ f i, d.flat) : BorrowOK (some l) ⟨v, obl, some (l, .own e sz n g f), false⟩ := by
 refine ⟨hv, rfl, fun e => hl (by cases e; rfl), fun l' L hu => ?_⟩
 cases hu
 exact ⟨hf, rfl⟩
section
variable (P : Program) (o : Oper) (A : ASt)
def stepB (ys : List AV) (K : Eff → Prop) : Prop :=
 match opEff P [] o ys (A.locAt (locNeed o ys)) with
 | some E => E.obl ∧ BorrowOK (locNeed o ys) E ∧ K E
 | none => False
end
attribute [go_sem] stepB
end Go.Proofs.YtemcdefpihkfpaaGreat.AL
namespace Go.Proofs.YtemcdefpihkfpaaGreat.AL
open Go.RowKit
theorem x43 {P : Program} {fn : Func} {Q : List AV → List (Nat × LV) → Prop} {A : ASt} {rs : List AV} {L : List (Nat × LV)} (hq : Q rs L) (hr : ResVarsA P A fn.results.toList rs) (hl : ∀ p ∈ L, look A.locs p.1 = some p.2) : retM P fn Q .ret A ∧ retM P fn Q .normal A :=
 ⟨q20 rs L hr hl hq, x146 rs L hr hl hq⟩
theorem z59 (M : Nat → Option Ent) (b : Nat) (E E' : Option Ent) : setM (setM M b E) b E' = setM M b E' := by
 funext k; unfold setM; split <;> rfl
theorem Weak.shrink (A : ASt) (M : Nat → Option Ent) (b n : Nat) (E : Ent) (hM : look A.locs 1999 = some (.raw M)) (hb : M b = some E) (hn : n ≤ E.n) : Weak A ⟨A.fr, (1999, .raw (setM M b (some { E with n := n }))) :: A.locs⟩ := by
 intro w0 g0 nt h a w r
 have old : ∀ k L, look ((1999, LV.raw (setM M b (some { E with n := n }))) :: A.locs) k = some L → (k = 1999 ∧ L = .raw (setM M b (some { E with n := n }))) ∨ (k ≠ 1999 ∧ look A.locs k = some L) := by
  intro k L hk
  simp only [look] at hk
  split at hk
  ·rename_i e; cases hk; exact .inl ⟨e.symm, rfl⟩
  ·rename_i e; exact .inr ⟨fun e' => e e'.symm, hk⟩
 have hin : ∀ b', inB h 1999 (.raw (setM M b (some { E with n := n }))) b' → inB h 1999 (.raw M) b' := by
  intro b' hb'
  simp only [inB, setM] at hb' ⊢
  split at hb'
  ·rename_i e; subst e; simp [hb]
  ·exact hb'
 refine ⟨h, r.size, r.defers, r.fr, fun k L hk => ?_, fun k k' L L' b' hkk hk hk' hb1 hb2 => ?_, r.ext, r.pin⟩
 ·rcases old k L hk with ⟨rfl, rfl⟩ | ⟨_, h3⟩
  ·intro b' E' hE'
   simp only [setM] at hE'
   split at hE'
   ·rename_i e; subst e; cases hE'
    obtain ⟨c1, ⟨cur, c2, c3, c4, c5, c6⟩, c7⟩ := r.locs 1999 _ hM b' E hb
    refine ⟨c1, ⟨cur, c2, c3, Nat.le_trans hn c4, c5, fun i hi => c6.1 i (Nat.lt_of_lt_of_le hi hn), fun i j d hi hj hd => ?_⟩, c7⟩
    obtain ⟨u, h1, h2⟩ := c6.cell (Nat.lt_of_lt_of_le hi hn) hj hd
    refine ⟨u, ?_, h2⟩
    have hi : i < n := hi
    rw [List.getElem?_take_of_lt (z22 hi hj)]
    simpa using h1
   ·exact r.locs 1999 _ hM b' E' hE'
  ·exact r.locs k L h3
 ·rcases old k L hk with ⟨rfl, rfl⟩ | ⟨n1, h3⟩ <;> rcases old k' L' hk' with ⟨e', rfl⟩ | ⟨n1', h3'⟩
  ·exact hkk e'.symm
  ·exact r.sep 1999 k' _ L' b' hkk hM h3' (hin b' hb1) hb2
  ·subst e'; exact r.sep k 1999 L _ b' hkk h3 hM hb1 (hin b' hb2)
  ·exact r.sep k k' L L' b' hkk h3 h3' hb1 hb2
end Go.Proofs.YtemcdefpihkfpaaGreat.AL
namespace Go.Proofs.YtemcdefpihkfpaaGreat
open Go.Proofs.YtemcdefpihkfpaaGreat.AL
def rowPP (l : List (List Port)) : Nat → List Dat := fun i => [.sl 5 (l.getD i []).length (rowP (l.getD i []))]
theorem q26 (l : List (List Port)) (i : Nat) : rowPP l i = [.sl 5 (l.getD i []).length (rowP (l.getD i []))] := rfl
def topoD (t : List (List Port)) : List Dat := [.sl 1 t.length (rowPP t)]
structure Spot where
 sw : Int
 po : Int
deriving DecidableEq
def spotD (s : Spot) : List Dat := [.v (.int .i64 s.sw), .v (.int .i64 s.po)]
def s0 : Spot := ⟨0, 0⟩
def rowS (l : List Spot) : Nat → List Dat := rowO spotD s0 l
def portT (t : List (List Port)) (n at' : Nat) : Bool :=
 let p := (t.getD n []).getD at' p0
 let q := (t.getD p.pe.toNat []).getD p.at'.toNat p0
 if p.kd = 0 then p.tn == 0 && p.pe == 0 && p.at' == 0 && p.co == 0
 else if p.kd = 1 then decide (0 ≤ p.tn) && decide (p.tn < 4) && p.pe == 0 && p.at' == 0 && p.co == 0
 else if p.kd = 2 ∧ p.tn = 0 ∧ 1 ≤ p.co ∧ p.co ≤ 1000 ∧ 0 ≤ p.pe ∧ p.pe < t.length ∧ p.pe ≠ n ∧ 0 ≤ p.at' ∧ p.at' < (t.getD p.pe.toNat []).length then
  q.kd == 2 && q.tn == 0 && q.pe == n && q.at' == at' && q.co == p.co
 else false
def small (t : List (List Port)) : Prop := t.length ≤ 1048576 ∧ ∀ l ∈ t, l.length ≤ 1048576
theorem z26 {t : List (List Port)} (h : small t) (i : Nat) : (t.getD i []).length ≤ 1048576 := by
 by_cases hi : i < t.length
 ·exact h.2 _ (z24 hi [])
 ·rw [List.getD_eq_getElem?_getD, List.getElem?_eq_none (by omega)]; simp
theorem eqI_p0 (tn pe at' co : Int) : eqI [0, tn, pe, at', co] [0, 0, 0, 0, 0] = (tn == 0 && pe == 0 && at' == 0 && co == 0) := by simp [eqI, Bool.and_assoc]
theorem eqI_p1 (tn pe at' co : Int) : eqI [1, tn, pe, at', co] [1, tn, 0, 0, 0] = (pe == 0 && at' == 0 && co == 0) := by simp [eqI, Bool.and_assoc]
theorem eqI_p2 (a b c d e n k co : Int) : eqI [a, b, c, d, e] [2, 0, n, k, co] = (a == 2 && b == 0 && c == n && d == k && e == co) := by simp [eqI, Bool.and_assoc]
theorem q164 (tn co pe at' : Int) (N n : Nat) (m : Int) : tn ≠ 0 ∨ (tn = 0 ∧ co < 1) ∨ (tn = 0 ∧ ¬ co < 1 ∧ 1000 < co) ∨ (tn = 0 ∧ ¬ co < 1 ∧ ¬ 1000 < co ∧ pe < 0) ∨ (tn = 0 ∧ ¬ co < 1 ∧ ¬ 1000 < co ∧ 0 ≤ pe ∧ (N : Int) ≤ pe) ∨
  (tn = 0 ∧ ¬ co < 1 ∧ ¬ 1000 < co ∧ 0 ≤ pe ∧ pe < (N : Int) ∧ pe = (n : Int)) ∨ (tn = 0 ∧ ¬ co < 1 ∧ ¬ 1000 < co ∧ 0 ≤ pe ∧ pe < (N : Int) ∧ pe ≠ (n : Int) ∧ at' < 0) ∨
  (tn = 0 ∧ ¬ co < 1 ∧ ¬ 1000 < co ∧ 0 ≤ pe ∧ pe < (N : Int) ∧ pe ≠ (n : Int) ∧ 0 ≤ at' ∧ m ≤ at') ∨
  (tn = 0 ∧ ¬ co < 1 ∧ ¬ 1000 < co ∧ 0 ≤ pe ∧ pe < (N : Int) ∧ pe ≠ (n : Int) ∧ 0 ≤ at' ∧ at' < m) := by omega
set_option maxRecDepth 100000 in
set_option maxHeartbeats 4000000 in
theorem portT_c (t : List (List Port)) (n k : Nat) (ht : small t) (hn : n < t.length) (hk : k < (t.getD n []).length) : ACalls Tryz.prog 148 [.agg (topoD t), .d (.v (.int .i64 (n : Int))), .d (.v (.int .i64 (k : Int)))] (· = [.d (.v (.bool (portT t n k)))]) := by
 obtain ⟨ht1, ht2⟩ := ht
 have hs := z26 ⟨ht1, ht2⟩
 have l1 := hs n
 have r1 := q26 t n
 have r2 := q32 (t.getD n []) k
 unfold portT topoD
 generalize t.getD n [] = ps at r1 r2 hk l1
 generalize ps.getD k p0 = p at r2
 obtain ⟨kd, tn, pe, at', co⟩ := p
 simp only [portD] at r2 ⊢
 by_cases h0 : kd = 0
 ·subst h0
  rw [if_pos rfl]
  refine z12 Tryz.func148 rfl (by decide +kernel) (by rw [Tryz.ntmps148]; simp) ?_; rw [Tryz.ntmps148]; simp only [frOf]
  (repeat (first | apply j0 | refine q8 rfl ?_ | refine z8 rfl ?_ | apply x7 | (refine j4 fun K hK => ?_) | (refine x5 fun K hK => ?_) | ((first | apply j6 | apply z7 | ((first | refine x4 (hK _ ?_) | refine x6 (hK _ _ j5 ?_)); clear hK K)); (first | show AWP _ _ _ _ _ | ((try simp only [j7]); first | show loopQ _ _ _ _ _ _ | show cutQ _ _ _ _ | show AWP _ _ _ _ _))) | ((first | refine x8 [] rfl ?_ | refine j8 [] rfl ?_); simp (disch := omega) only [go_sem, seval, portD, j16, z16, q17, x16, x14, r1, r2]; (repeat (first | refine ⟨by omega, ?_⟩ | refine ⟨True.intro, ?_⟩)))))
  refine q10 ⟨_, ?_, rfl⟩; rw [Tryz.results148]; simp (disch := omega) only [ResVars, ResVar, ptrLoc, go_sem, seval, portD, j16, z16, q17, x16, x14, r1, r2]
  rw [eqI_p0]
 ·rw [if_neg h0]
  by_cases h1 : kd = 1
  ·subst h1
   rw [if_pos rfl]
   have e := eqI_p1 tn pe at' co
   generalize hb : (pe == 0 && at' == 0 && co == 0) = b at e
   rw [Bool.and_assoc, Bool.and_assoc, ← Bool.and_assoc (pe == 0), hb]
   cases b
   ·rw [Bool.and_false]
    refine z12 Tryz.func148 rfl (by decide +kernel) (by rw [Tryz.ntmps148]; simp) ?_; rw [Tryz.ntmps148]; simp only [frOf]
    (repeat (first | apply j0 | refine q8 rfl ?_ | refine z8 rfl ?_ | apply x7 | (refine j4 fun K hK => ?_) | (refine x5 fun K hK => ?_) | ((first | apply j6 | apply z7 | ((first | refine x4 (hK _ ?_) | refine x6 (hK _ _ j5 ?_)); clear hK K)); (first | show AWP _ _ _ _ _ | ((try simp only [j7]); first | show loopQ _ _ _ _ _ _ | show cutQ _ _ _ _ | show AWP _ _ _ _ _))) | ((first | refine x8 [] rfl ?_ | refine j8 [] rfl ?_); simp (disch := omega) only [go_sem, seval, portD, j16, z16, q17, x16, x14, r1, r2, e]; (repeat (first | refine ⟨by omega, ?_⟩ | refine ⟨True.intro, ?_⟩)))))
    refine q10 ⟨_, ?_, rfl⟩; rw [Tryz.results148]; simp (disch := omega) only [ResVars, ResVar, ptrLoc, go_sem, seval, portD, j16, z16, q17, x16, x14, r1, r2, e]
   ·rw [Bool.and_true]
    by_cases h2 : 0 ≤ tn
    ·rw [decide_eq_true h2, Bool.true_and]
     refine z12 Tryz.func148 rfl (by decide +kernel) (by rw [Tryz.ntmps148]; simp) ?_; rw [Tryz.ntmps148]; simp only [frOf]
     (repeat (first | apply j0 | refine q8 rfl ?_ | refine z8 rfl ?_ | apply x7 | (refine j4 fun K hK => ?_) | (refine x5 fun K hK => ?_) | ((first | apply j6 | apply z7 | ((first | refine x4 (hK _ ?_) | refine x6 (hK _ _ j5 ?_)); clear hK K)); (first | show AWP _ _ _ _ _ | ((try simp only [j7]); first | show loopQ _ _ _ _ _ _ | show cutQ _ _ _ _ | show AWP _ _ _ _ _))) | ((first | refine x8 [] rfl ?_ | refine j8 [] rfl ?_); simp (disch := omega) only [go_sem, seval, portD, j16, z16, q17, x16, x14, r1, r2, e]; (repeat (first | refine ⟨by omega, ?_⟩ | refine ⟨True.intro, ?_⟩)))))
     refine q10 ⟨_, ?_, rfl⟩; rw [Tryz.results148]; simp (disch := omega) only [ResVars, ResVar, ptrLoc, go_sem, seval, portD, j16, z16, q17, x16, x14, r1, r2, e]
    ·rw [decide_eq_false h2, Bool.false_and]
     refine z12 Tryz.func148 rfl (by decide +kernel) (by rw [Tryz.ntmps148]; simp) ?_; rw [Tryz.ntmps148]; simp only [frOf]
     (repeat (first | apply j0 | refine q8 rfl ?_ | refine z8 rfl ?_ | apply x7 | (refine j4 fun K hK => ?_) | (refine x5 fun K hK => ?_) | ((first | apply j6 | apply z7 | ((first | refine x4 (hK _ ?_) | refine x6 (hK _ _ j5 ?_)); clear hK K)); (first | show AWP _ _ _ _ _ | ((try simp only [j7]); first | show loopQ _ _ _ _ _ _ | show cutQ _ _ _ _ | show AWP _ _ _ _ _))) | ((first | refine x8 [] rfl ?_ | refine j8 [] rfl ?_); simp (disch := omega) only [go_sem, seval, portD, j16, z16, q17, x16, x14, r1, r2, e]; (repeat (first | refine ⟨by omega, ?_⟩ | refine ⟨True.intro, ?_⟩)))))
     refine q10 ⟨_, ?_, rfl⟩; rw [Tryz.results148]; simp (disch := omega) only [ResVars, ResVar, ptrLoc, go_sem, seval, portD, j16, z16, q17, x16, x14, r1, r2, e]
  ·rw [if_neg h1]
   by_cases h2 : kd = 2
   ·subst h2
    have l2 := hs pe.toNat
    have r3 := q26 t pe.toNat
    have r4 := q32 (t.getD pe.toNat []) at'.toNat
    generalize t.getD pe.toNat [] = qs at r3 r4 l2
    generalize qs.getD at'.toNat p0 = q at r4
    obtain ⟨a, b, c, d, e⟩ := q
    simp only [portD] at r4 ⊢
    have lc := q164 tn co pe at' t.length n qs.length
    by_cases hc : True ∧ tn = 0 ∧ 1 ≤ co ∧ co ≤ 1000 ∧ 0 ≤ pe ∧ pe < (t.length : Int) ∧ pe ≠ (n : Int) ∧ 0 ≤ at' ∧ at' < (qs.length : Int)
    ·rw [if_pos hc]
     obtain ⟨_, c1, c2, c3, c4, c5, c6, c7, c8⟩ := hc
     have e2 := eqI_p2 a b c d e n k co
     clear lc
     subst c1
     refine z12 Tryz.func148 rfl (by decide +kernel) (by rw [Tryz.ntmps148]; simp) ?_; rw [Tryz.ntmps148]; simp only [frOf]
     (repeat ((fail_if_success (show AWP _ _ (.region 8 _ _) _ _)); first | apply j0 | refine q8 rfl ?_ | refine z8 rfl ?_ | apply x7 | (refine j4 fun K hK => ?_) | (refine x5 fun K hK => ?_) | ((first | apply j6 | apply z7 | ((first | refine x4 (hK _ ?_) | refine x6 (hK _ _ j5 ?_)); clear hK K)); (first | show AWP _ _ _ _ _ | ((try simp only [j7]); first | show loopQ _ _ _ _ _ _ | show cutQ _ _ _ _ | show AWP _ _ _ _ _))) | ((first | refine x8 [] rfl ?_ | refine j8 [] rfl ?_); simp (disch := omega) only [go_sem, seval, portD, j16, z16, q17, x16, x14, r1, r2, r3, r4, z16, q17, x16, x14]; (repeat (first | refine ⟨by omega, ?_⟩ | refine ⟨True.intro, ?_⟩)))))
     (refine x65 [1, 2, 3, 7] [7] ?_); simp only [AL.keep, AL.look, ↓reduceIte, Nat.reduceEqDiff, reduceCtorEq]
     (repeat ((fail_if_success (show AWP _ _ (.region 11 _ _) _ _)); first | apply j0 | refine q8 rfl ?_ | refine z8 rfl ?_ | apply x7 | (refine j4 fun K hK => ?_) | (refine x5 fun K hK => ?_) | ((first | apply j6 | apply z7 | ((first | refine x4 (hK _ ?_) | refine x6 (hK _ _ j5 ?_)); clear hK K)); (first | show AWP _ _ _ _ _ | ((try simp only [j7]); first | show loopQ _ _ _ _ _ _ | show cutQ _ _ _ _ | show AWP _ _ _ _ _))) | ((first | refine x8 [] rfl ?_ | refine j8 [] rfl ?_); simp (disch := omega) only [go_sem, seval, portD, j16, z16, q17, x16, x14, r1, r2, r3, r4, z16, q17, x16, x14]; (repeat (first | refine ⟨by omega, ?_⟩ | refine ⟨True.intro, ?_⟩)))))
     (refine x65 [1, 7, 2, 8] [7] ?_); simp only [AL.keep, AL.look, ↓reduceIte, Nat.reduceEqDiff, reduceCtorEq]
     (repeat (first | apply j0 | refine q8 rfl ?_ | refine z8 rfl ?_ | apply x7 | (refine j4 fun K hK => ?_) | (refine x5 fun K hK => ?_) | ((first | apply j6 | apply z7 | ((first | refine x4 (hK _ ?_) | refine x6 (hK _ _ j5 ?_)); clear hK K)); (first | show AWP _ _ _ _ _ | ((try simp only [j7]); first | show loopQ _ _ _ _ _ _ | show cutQ _ _ _ _ | show AWP _ _ _ _ _))) | ((first | refine x8 [] rfl ?_ | refine j8 [] rfl ?_); simp (disch := omega) only [go_sem, seval, portD, j16, z16, q17, x16, x14, r1, r2, r3, r4, z16, q17, x16, x14]; (repeat (first | refine ⟨by omega, ?_⟩ | refine ⟨True.intro, ?_⟩)))))
     refine q10 ⟨_, ?_, rfl⟩; rw [Tryz.results148]; simp (disch := omega) only [ResVars, ResVar, ptrLoc, go_sem, seval, portD, j16, z16, q17, x16, x14, r1, r2, r3, r4, z16, q17, x16, x14]
     rw [e2]
    ·rw [if_neg hc]
     rcases lc with c1 | ⟨c1, c2⟩ | ⟨c1, c2, c3⟩ | ⟨c1, c2, c3, c4⟩ | ⟨c1, c2, c3, c4, c5⟩ | ⟨c1, c2, c3, c4, c5, c6⟩ | ⟨c1, c2, c3, c4, c5, c6, c7⟩ | ⟨c1, c2, c3, c4, c5, c6, c7, c8⟩ | ⟨c1, c2, c3, c4, c5, c6, c7, c8⟩
     case' inr.inr.inr.inr.inr.inr.inr.inr => exact absurd ⟨trivial, c1, by omega, by omega, c4, c5, c6, c7, c8⟩ hc
     all_goals
      clear hc
      refine z12 Tryz.func148 rfl (by decide +kernel) (by rw [Tryz.ntmps148]; simp) ?_; rw [Tryz.ntmps148]; simp only [frOf]
      (repeat ((fail_if_success (show AWP _ _ (.region 8 _ _) _ _)); first | apply j0 | refine q8 rfl ?_ | refine z8 rfl ?_ | apply x7 | (refine j4 fun K hK => ?_) | (refine x5 fun K hK => ?_) | ((first | apply j6 | apply z7 | ((first | refine x4 (hK _ ?_) | refine x6 (hK _ _ j5 ?_)); clear hK K)); (first | show AWP _ _ _ _ _ | ((try simp only [j7]); first | show loopQ _ _ _ _ _ _ | show cutQ _ _ _ _ | show AWP _ _ _ _ _))) | ((first | refine x8 [] rfl ?_ | refine j8 [] rfl ?_); simp (disch := omega) only [go_sem, seval, portD, j16, z16, q17, x16, x14, r1, r2, r3, r4, z16, q17, x16, x14]; (repeat (first | refine ⟨by omega, ?_⟩ | refine ⟨True.intro, ?_⟩)))))
      (refine x65 [1, 2, 3, 7] [7] ?_); simp only [AL.keep, AL.look, ↓reduceIte, Nat.reduceEqDiff, reduceCtorEq]
      (repeat (first | apply j0 | refine q8 rfl ?_ | refine z8 rfl ?_ | apply x7 | (refine j4 fun K hK => ?_) | (refine x5 fun K hK => ?_) | ((first | apply j6 | apply z7 | ((first | refine x4 (hK _ ?_) | refine x6 (hK _ _ j5 ?_)); clear hK K)); (first | show AWP _ _ _ _ _ | ((try simp only [j7]); first | show loopQ _ _ _ _ _ _ | show cutQ _ _ _ _ | show AWP _ _ _ _ _))) | ((first | refine x8 [] rfl ?_ | refine j8 [] rfl ?_); simp (disch := omega) only [go_sem, seval, portD, j16, z16, q17, x16, x14, r1, r2, r3, r4, z16, q17, x16, x14]; (repeat (first | refine ⟨by omega, ?_⟩ | refine ⟨True.intro, ?_⟩)))))
      refine q10 ⟨_, ?_, rfl⟩; rw [Tryz.results148]; simp (disch := omega) only [ResVars, ResVar, ptrLoc, go_sem, seval, portD, j16, z16, q17, x16, x14, r1, r2, r3, r4, z16, q17, x16, x14]
   ·rw [if_neg (fun h => h2 h.1)]
    refine z12 Tryz.func148 rfl (by decide +kernel) (by rw [Tryz.ntmps148]; simp) ?_; rw [Tryz.ntmps148]; simp only [frOf]
    (repeat (first | apply j0 | refine q8 rfl ?_ | refine z8 rfl ?_ | apply x7 | (refine j4 fun K hK => ?_) | (refine x5 fun K hK => ?_) | ((first | apply j6 | apply z7 | ((first | refine x4 (hK _ ?_) | refine x6 (hK _ _ j5 ?_)); clear hK K)); (first | show AWP _ _ _ _ _ | ((try simp only [j7]); first | show loopQ _ _ _ _ _ _ | show cutQ _ _ _ _ | show AWP _ _ _ _ _))) | ((first | refine x8 [] rfl ?_ | refine j8 [] rfl ?_); simp (disch := omega) only [go_sem, seval, portD, j16, z16, q17, x16, x14, r1, r2]; (repeat (first | refine ⟨by omega, ?_⟩ | refine ⟨True.intro, ?_⟩)))))
    refine q10 ⟨_, ?_, rfl⟩; rw [Tryz.results148]; simp (disch := omega) only [ResVars, ResVar, ptrLoc, go_sem, seval, portD, j16, z16, q17, x16, x14, r1, r2]
def allF (f : Nat → Bool) (n i : Nat) : Bool := (List.range' i (n - i)).all f
theorem z21 {f : Nat → Bool} {n i : Nat} (h : i < n) : allF f n i = (f i && allF f n (i + 1)) := by
 unfold allF
 rw [show n - i = (n - (i + 1)) + 1 by omega, List.range'_succ, List.all_cons]
theorem x21 {f : Nat → Bool} {n i : Nat} (h : n ≤ i) : allF f n i = true := by
 unfold allF
 rw [show n - i = 0 by omega]; rfl
def lensT (t : List (List Port)) (i : Nat) : Bool := decide ((t.getD i []).length ≤ 6)
def portsT (t : List (List Port)) (n : Nat) : Bool := allF (portT t n) (t.getD n []).length 0
def soundT (t : List (List Port)) : Int := if t.length = 0 ∨ 6 < t.length then 4 else if allF (lensT t) t.length 0 = false then 4 else if allF (portsT t) t.length 0 = true then 0 else 2
def soundTI (t : List (List Port)) (B : Bool) (s : {i : Nat // i ≤ t.length ∧ allF (lensT t) t.length i = B}) : ASt :=
 ⟨[(21, .p (.d (.v (.int .i64 (s.val : Int))))), (20, .p (.d (.v (.int .i64 (t.length : Int))))), (19, .p (.d (.sl 1 t.length (rowPP t)))), (1, .p (.d (.bx (topoD t))))], []⟩
def soundTJ (t : List (List Port)) (R : Int) (s : {i : Nat // i ≤ t.length ∧ (if allF (portsT t) t.length i = true then 0 else 2) = R}) : ASt :=
 ⟨[(32, .p (.d (.v (.int .i64 (s.val : Int))))), (31, .p (.d (.v (.int .i64 (t.length : Int))))), (30, .p (.d (.sl 1 t.length (rowPP t)))), (1, .p (.d (.bx (topoD t))))], []⟩
def soundTK (t : List (List Port)) (R : Int) (i : Nat) (l : List Port) (s : {k : Nat // k ≤ l.length ∧ (if (allF (portT t i) l.length k && allF (portsT t) t.length (i + 1)) = true then 0 else 2) = R}) : ASt :=
 ⟨[(39, .p (.d (.v (.int .i64 (s.val : Int))))), (38, .p (.d (.v (.int .i64 (l.length : Int))))), (32, .p (.d (.v (.int .i64 (i : Int))))), (31, .p (.d (.v (.int .i64 (t.length : Int))))), (30, .p (.d (.sl 1 t.length (rowPP t)))), (5, .p (.d (.v (.int .i64 (i : Int))))), (1, .p (.d (.bx (topoD t))))], []⟩
set_option maxRecDepth 100000 in
set_option maxHeartbeats 2000000 in
theorem z164 (t : List (List Port)) (ht : small t) : ACalls Tryz.prog 108 [.agg (topoD t)] (· = [.d (.v (.int .i64 (soundT t)))]) := by
 have hs := z26 ht
 have ht1 := ht.1
 unfold soundT
 by_cases h0 : t.length = 0
 ·rw [if_pos (.inl h0)]
  have q : ((t.length : Int) == 0) = true := q17 (by omega)
  refine z12 Tryz.func108 rfl (by decide +kernel) (by rw [Tryz.ntmps108]; simp) ?_; rw [Tryz.ntmps108]; simp only [frOf]
  (repeat (first | apply j0 | refine q8 rfl ?_ | refine z8 rfl ?_ | apply x7 | (refine j4 fun K hK => ?_) | (refine x5 fun K hK => ?_) | ((first | apply j6 | apply z7 | ((first | refine x4 (hK _ ?_) | refine x6 (hK _ _ j5 ?_)); clear hK K)); (first | show AWP _ _ _ _ _ | ((try simp only [j7]); first | show loopQ _ _ _ _ _ _ | show cutQ _ _ _ _ | show AWP _ _ _ _ _))) | ((first | refine x8 [] rfl ?_ | refine j8 [] rfl ?_); simp (disch := omega) only [go_sem, seval, portD, topoD, spotD, q]; (repeat (first | refine ⟨by omega, ?_⟩ | refine ⟨True.intro, ?_⟩)))))
  refine q10 ⟨_, ?_, rfl⟩; rw [Tryz.results108]; simp (disch := omega) only [ResVars, ResVar, ptrLoc, go_sem, seval, portD, topoD, spotD, q]
 ·have q : ((t.length : Int) == 0) = false := z16 (by omega)
  by_cases h6 : 6 < t.length
  ·rw [if_pos (.inr h6)]
   refine z12 Tryz.func108 rfl (by decide +kernel) (by rw [Tryz.ntmps108]; simp) ?_; rw [Tryz.ntmps108]; simp only [frOf]
   (repeat (first | apply j0 | refine q8 rfl ?_ | refine z8 rfl ?_ | apply x7 | (refine j4 fun K hK => ?_) | (refine x5 fun K hK => ?_) | ((first | apply j6 | apply z7 | ((first | refine x4 (hK _ ?_) | refine x6 (hK _ _ j5 ?_)); clear hK K)); (first | show AWP _ _ _ _ _ | ((try simp only [j7]); first | show loopQ _ _ _ _ _ _ | show cutQ _ _ _ _ | show AWP _ _ _ _ _))) | ((first | refine x8 [] rfl ?_ | refine j8 [] rfl ?_); simp (disch := omega) only [go_sem, seval, portD, topoD, spotD, q]; (repeat (first | refine ⟨by omega, ?_⟩ | refine ⟨True.intro, ?_⟩)))))
   refine q10 ⟨_, ?_, rfl⟩; rw [Tryz.results108]; simp (disch := omega) only [ResVars, ResVar, ptrLoc, go_sem, seval, portD, topoD, spotD, q]
  ·rw [if_neg (by omega)]
   generalize hB : allF (lensT t) t.length 0 = B
   generalize hR : (if allF (portsT t) t.length 0 = true then (0 : Int) else 2) = R
   refine z12 Tryz.func108 rfl (by decide +kernel) (by rw [Tryz.ntmps108]; simp) ?_; rw [Tryz.ntmps108]; simp only [frOf]
   (repeat (first | apply j0 | refine q8 rfl ?_ | refine z8 rfl ?_ | apply x7 | (refine j4 fun K hK => ?_) | (refine x5 fun K hK => ?_) | ((first | apply j6 | apply z7 | ((first | refine x4 (hK _ ?_) | refine x6 (hK _ _ j5 ?_)); clear hK K)); (first | show AWP _ _ _ _ _ | ((try simp only [j7]); first | show loopQ _ _ _ _ _ _ | show cutQ _ _ _ _ | show AWP _ _ _ _ _))) | ((first | refine x8 [] rfl ?_ | refine j8 [] rfl ?_); simp (disch := omega) only [go_sem, seval, portD, topoD, spotD, q]; (repeat (first | refine ⟨by omega, ?_⟩ | refine ⟨True.intro, ?_⟩)))))
   refine x13 (soundTI t B) (fun s => t.length - s.val) ⟨0, Nat.zero_le _, hB⟩ ?_ (fun s => ?_)
   ·unfold soundTI
    refine Weak.list ?_ ?_; (all_goals simp (disch := omega) only [AllF, AllL, x11, j11, z11, exists_eq_left', go_sem, seval, portD, topoD, spotD]); (all_goals (repeat' (with_reducible apply And.intro))); (all_goals try (first | exact q9 rfl | (refine q12 ?_; omega) | (refine q9 ?_; simp; done)))
   obtain ⟨i, hi, hb⟩ := s
   unfold soundTI
   simp only [] at hi hb ⊢
   by_cases h : i < t.length
   ·rw [z21 h] at hb
    unfold lensT at hb
    have r1 := q26 t i
    generalize t.getD i [] = l at r1 hb
    by_cases h7 : 6 < l.length
    ·rw [decide_eq_false (by omega), Bool.false_and] at hb
     subst hb
     rw [if_pos rfl]
     (repeat (first | apply j0 | refine q8 rfl ?_ | refine z8 rfl ?_ | apply x7 | (refine j4 fun K hK => ?_) | (refine x5 fun K hK => ?_) | ((first | apply j6 | apply z7 | ((first | refine x4 (hK _ ?_) | refine x6 (hK _ _ j5 ?_)); clear hK K)); (first | show AWP _ _ _ _ _ | ((try simp only [j7]); first | show loopQ _ _ _ _ _ _ | show cutQ _ _ _ _ | show AWP _ _ _ _ _))) | ((first | refine x8 [] rfl ?_ | refine j8 [] rfl ?_); simp (disch := omega) only [go_sem, seval, portD, topoD, spotD, r1]; (repeat (first | refine ⟨by omega, ?_⟩ | refine ⟨True.intro, ?_⟩)))))
     refine q10 ⟨_, ?_, rfl⟩; rw [Tryz.results108]; simp (disch := omega) only [ResVars, ResVar, ptrLoc, go_sem, seval, portD, topoD, spotD, r1]
    ·rw [decide_eq_true (by omega), Bool.true_and] at hb
     (repeat (first | apply j0 | refine q8 rfl ?_ | refine z8 rfl ?_ | apply x7 | (refine j4 fun K hK => ?_) | (refine x5 fun K hK => ?_) | ((first | apply j6 | apply z7 | ((first | refine x4 (hK _ ?_) | refine x6 (hK _ _ j5 ?_)); clear hK K)); (first | show AWP _ _ _ _ _ | ((try simp only [j7]); first | show loopQ _ _ _ _ _ _ | show cutQ _ _ _ _ | show AWP _ _ _ _ _))) | ((first | refine x8 [] rfl ?_ | refine j8 [] rfl ?_); simp (disch := omega) only [go_sem, seval, portD, topoD, spotD, r1]; (repeat (first | refine ⟨by omega, ?_⟩ | refine ⟨True.intro, ?_⟩)))))
     refine ⟨⟨i + 1, by omega, hb⟩, by simp only []; omega, ?_⟩
     refine Weak.list ?_ ?_; (all_goals simp (disch := omega) only [AllF, AllL, x11, j11, z11, exists_eq_left', go_sem, seval, portD, topoD, spotD, r1]); (all_goals (repeat' (with_reducible apply And.intro))); (all_goals try (first | exact q9 rfl | (refine q12 ?_; omega) | (refine q9 ?_; simp; done)))
   ·rw [x21 (by omega)] at hb
    subst hb
    rw [if_neg (by decide)]
    (repeat (first | apply j0 | refine q8 rfl ?_ | refine z8 rfl ?_ | apply x7 | (refine j4 fun K hK => ?_) | (refine x5 fun K hK => ?_) | ((first | apply j6 | apply z7 | ((first | refine x4 (hK _ ?_) | refine x6 (hK _ _ j5 ?_)); clear hK K)); (first | show AWP _ _ _ _ _ | ((try simp only [j7]); first | show loopQ _ _ _ _ _ _ | show cutQ _ _ _ _ | show AWP _ _ _ _ _))) | ((first | refine x8 [] rfl ?_ | refine j8 [] rfl ?_); simp (disch := omega) only [go_sem, seval, portD, topoD, spotD]; (repeat (first | refine ⟨by omega, ?_⟩ | refine ⟨True.intro, ?_⟩)))))
    refine x13 (soundTJ t R) (fun s => t.length - s.val) ⟨0, Nat.zero_le _, hR⟩ ?_ (fun s => ?_)
    ·unfold soundTJ
     refine Weak.list ?_ ?_; (all_goals simp (disch := omega) only [AllF, AllL, x11, j11, z11, exists_eq_left', go_sem, seval, portD, topoD, spotD]); (all_goals (repeat' (with_reducible apply And.intro))); (all_goals try (first | exact q9 rfl | (refine q12 ?_; omega) | (refine q9 ?_; simp; done)))
    clear hb hi h i
    obtain ⟨i, hi, hr⟩ := s
    unfold soundTJ
    simp only [] at hi hr ⊢
    by_cases h : i < t.length
    ·rw [z21 h] at hr
     have hp : portsT t i = allF (portT t i) (t.getD i []).length 0 := rfl
     rw [hp] at hr
     have hc := fun k (hk : k < (t.getD i []).length) => portT_c t i k ht h hk
     have r1 := q26 t i
     have l1 := hs i
     generalize t.getD i [] = l at r1 hr hc l1
     (repeat (first | apply j0 | refine q8 rfl ?_ | refine z8 rfl ?_ | apply x7 | (refine j4 fun K hK => ?_) | (refine x5 fun K hK => ?_) | ((first | apply j6 | apply z7 | ((first | refine x4 (hK _ ?_) | refine x6 (hK _ _ j5 ?_)); clear hK K)); (first | show AWP _ _ _ _ _ | ((try simp only [j7]); first | show loopQ _ _ _ _ _ _ | show cutQ _ _ _ _ | show AWP _ _ _ _ _))) | ((first | refine x8 [] rfl ?_ | refine j8 [] rfl ?_); simp (disch := omega) only [go_sem, seval, portD, topoD, spotD, r1]; (repeat (first | refine ⟨by omega, ?_⟩ | refine ⟨True.intro, ?_⟩)))))
     refine x13 (soundTK t R i l) (fun s => l.length - s.val) ⟨0, Nat.zero_le _, hr⟩ ?_ (fun s => ?_)
     ·unfold soundTK
      refine Weak.list ?_ ?_; (all_goals simp (disch := omega) only [AllF, AllL, x11, j11, z11, exists_eq_left', go_sem, seval, portD, topoD, spotD]); (all_goals (repeat' (with_reducible apply And.intro))); (all_goals try (first | exact q9 rfl | (refine q12 ?_; omega) | (refine q9 ?_; simp; done)))
     clear hr
     obtain ⟨k, hk, hr⟩ := s
     unfold soundTK
     simp only [] at hk hr ⊢
     by_cases h2 : k < l.length
     ·have c := hc k h2
      rw [z21 h2] at hr
      generalize portT t i k = b at hr c
      simp only [topoD] at c
      cases b
      ·simp only [Bool.false_and, Bool.false_eq_true, if_false] at hr
       subst hr
       (repeat (first | apply j0 | refine q8 rfl ?_ | refine z8 rfl ?_ | apply x7 | (refine j4 fun K hK => ?_) | (refine x5 fun K hK => ?_) | ((first | apply j6 | apply z7 | ((first | refine x4 (hK _ ?_) | refine x6 (hK _ _ j5 ?_)); clear hK K)); (first | show AWP _ _ _ _ _ | ((try simp only [j7]); first | show loopQ _ _ _ _ _ _ | show cutQ _ _ _ _ | show AWP _ _ _ _ _))) | ((first | refine j10 rfl rfl rfl ?_ | refine q11 rfl rfl rfl ?_); simp (disch := omega) only [go_sem, seval, portD, topoD, spotD]; (first | refine ⟨_, c, ?_⟩)) | ((first | refine x8 [] rfl ?_ | refine j8 [] rfl ?_); simp (disch := omega) only [go_sem, seval, portD, topoD, spotD]; (repeat (first | refine ⟨by omega, ?_⟩ | refine ⟨True.intro, ?_⟩)))))
       refine q10 ⟨_, ?_, rfl⟩; rw [Tryz.results108]; simp (disch := omega) only [ResVars, ResVar, ptrLoc, go_sem, seval, portD, topoD, spotD]
      ·rw [Bool.true_and] at hr
       (repeat (first | apply j0 | refine q8 rfl ?_ | refine z8 rfl ?_ | apply x7 | (refine j4 fun K hK => ?_) | (refine x5 fun K hK => ?_) | ((first | apply j6 | apply z7 | ((first | refine x4 (hK _ ?_) | refine x6 (hK _ _ j5 ?_)); clear hK K)); (first | show AWP _ _ _ _ _ | ((try simp only [j7]); first | show loopQ _ _ _ _ _ _ | show cutQ _ _ _ _ | show AWP _ _ _ _ _))) | ((first | refine j10 rfl rfl rfl ?_ | refine q11 rfl rfl rfl ?_); simp (disch := omega) only [go_sem, seval, portD, topoD, spotD]; (first | refine ⟨_, c, ?_⟩)) | ((first | refine x8 [] rfl ?_ | refine j8 [] rfl ?_); simp (disch := omega) only [go_sem, seval, portD, topoD, spotD]; (repeat (first | refine ⟨by omega, ?_⟩ | refine ⟨True.intro, ?_⟩)))))
       refine ⟨⟨k + 1, by omega, hr⟩, by simp only []; omega, ?_⟩
       refine Weak.list ?_ ?_; (all_goals simp (disch := omega) only [AllF, AllL, x11, j11, z11, exists_eq_left', go_sem, seval, portD, topoD, spotD]); (all_goals (repeat' (with_reducible apply And.intro))); (all_goals try (first | exact q9 rfl | (refine q12 ?_; omega) | (refine q9 ?_; simp; done)))
     ·rw [x21 (show l.length ≤ k by omega), Bool.true_and] at hr
      (repeat (first | apply j0 | refine q8 rfl ?_ | refine z8 rfl ?_ | apply x7 | (refine j4 fun K hK => ?_) | (refine x5 fun K hK => ?_) | ((first | apply j6 | apply z7 | ((first | refine x4 (hK _ ?_) | refine x6 (hK _ _ j5 ?_)); clear hK K)); (first | show AWP _ _ _ _ _ | ((try simp only [j7]); first | show loopQ _ _ _ _ _ _ | show cutQ _ _ _ _ | show AWP _ _ _ _ _))) | ((first | refine x8 [] rfl ?_ | refine j8 [] rfl ?_); simp (disch := omega) only [go_sem, seval, portD, topoD, spotD]; (repeat (first | refine ⟨by omega, ?_⟩ | refine ⟨True.intro, ?_⟩)))))
      refine ⟨⟨i + 1, by omega, hr⟩, by simp only []; omega, ?_⟩
      refine Weak.list ?_ ?_; (all_goals simp (disch := omega) only [AllF, AllL, x11, j11, z11, exists_eq_left', go_sem, seval, portD, topoD, spotD]); (all_goals (repeat' (with_reducible apply And.intro))); (all_goals try (first | exact q9 rfl | (refine q12 ?_; omega) | (refine q9 ?_; simp; done)))
    ·rw [x21 (by omega), if_pos rfl] at hr
     subst hr
     (repeat (first | apply j0 | refine q8 rfl ?_ | refine z8 rfl ?_ | apply x7 | (refine j4 fun K hK => ?_) | (refine x5 fun K hK => ?_) | ((first | apply j6 | apply z7 | ((first | refine x4 (hK _ ?_) | refine x6 (hK _ _ j5 ?_)); clear hK K)); (first | show AWP _ _ _ _ _ | ((try simp only [j7]); first | show loopQ _ _ _ _ _ _ | show cutQ _ _ _ _ | show AWP _ _ _ _ _))) | ((first | refine x8 [] rfl ?_ | refine j8 [] rfl ?_); simp (disch := omega) only [go_sem, seval, portD, topoD, spotD]; (repeat (first | refine ⟨by omega, ?_⟩ | refine ⟨True.intro, ?_⟩)))))
     refine q10 ⟨_, ?_, rfl⟩; rw [Tryz.results108]; simp (disch := omega) only [ResVars, ResVar, ptrLoc, go_sem, seval, portD, topoD, spotD]
def edgeRow (ps : List Port) (n : Nat) : Nat → List Spot
 | 0 => []
 | k + 1 => edgeRow ps n k ++ if (ps.getD k p0).kd = 1 then [⟨n, k⟩] else []
def edgesTo (t : List (List Port)) : Nat → List Spot
 | 0 => []
 | n + 1 => edgesTo t n ++ edgeRow (t.getD n []) n (t.getD n []).length
def edgesT (t : List (List Port)) : List Spot := edgesTo t t.length
theorem x72 (ps : List Port) (n : Nat) : ∀ k, (edgeRow ps n k).length ≤ k
 | 0 => Nat.le_refl _
 |k + 1 => by
  have := x72 ps n k
  unfold edgeRow
  rw [List.length_append]
  split <;> simp <;> omega
theorem x59 {t : List (List Port)} (h : small t) : ∀ n, (edgesTo t n).length ≤ n * 1048576
 | 0 => Nat.le_refl _
 |n + 1 => by
  have h1 := x59 h n
  have h2 := x72 (t.getD n []) n (t.getD n []).length
  have h3 := z26 h n
  unfold edgesTo
  rw [List.length_append]
  omega
theorem q108 {ps : List Port} {n : Nat} {s : Spot} : ∀ {k : Nat}, s ∈ edgeRow ps n k ↔ ∃ j, j < k ∧ (ps.getD j p0).kd = 1 ∧ s = ⟨n, j⟩
 | 0 => by simp [edgeRow]
 |k + 1 => by
  unfold edgeRow
  rw [List.mem_append, q108 (k := k)]
  constructor
  ·rintro (⟨j, h1, h2, h3⟩ | h)
   ·exact ⟨j, by omega, h2, h3⟩
   ·split at h
    ·rename_i hk
     exact ⟨k, by omega, hk, by simpa using h⟩
    ·simp at h
  ·rintro ⟨j, h1, h2, h3⟩
   by_cases hj : j = k
   ·subst hj
    right
    rw [if_pos h2]
    simp [h3]
   ·exact .inl ⟨j, by omega, h2, h3⟩
theorem z108 {t : List (List Port)} {s : Spot} : ∀ {n : Nat}, s ∈ edgesTo t n ↔ ∃ i j, i < n ∧ j < (t.getD i []).length ∧ ((t.getD i []).getD j p0).kd = 1 ∧ s = ⟨i, j⟩
 | 0 => by simp [edgesTo]
 |n + 1 => by
  unfold edgesTo
  rw [List.mem_append, z108 (n := n), q108]
  constructor
  ·rintro (⟨i, j, h1, h2⟩ | ⟨j, h1, h2, h3⟩)
   ·exact ⟨i, j, by omega, h2⟩
   ·exact ⟨n, j, by omega, h1, h2, h3⟩
  ·rintro ⟨i, j, h1, h2, h3, h4⟩
   by_cases hi : i = n
   ·subst hi
    exact .inr ⟨j, h2, h3, h4⟩
   ·exact .inl ⟨i, j, by omega, h2, h3, h4⟩
def edgeT (t : List (List Port)) (s : Spot) : Int :=
 if s.sw < 0 ∨ (t.length : Int) ≤ s.sw then -1 else if s.po < 0 ∨ ((t.getD s.sw.toNat []).length : Int) ≤ s.po then -1 else
 if ((t.getD s.sw.toNat []).getD s.po.toNat p0).kd = 1 then ((t.getD s.sw.toNat []).getD s.po.toNat p0).tn else -1
def edgesI (t : List (List Port)) (s : {s : Nat × List Spot // s.1 ≤ t.length ∧ s.2 = edgesTo t s.1}) : ASt :=
 ⟨[(11, .p (.d (.v (.int .i64 (s.val.1 : Int))))), (10, .p (.d (.v (.int .i64 (t.length : Int))))), (9, .p (.d (.sl 1 t.length (rowPP t)))), (3, .gr 3 s.val.2.length 2 s.val.2.length (rowS s.val.2)), (1, .p (.d (.bx (topoD t))))],
  [(3, .grow 86 2 s.val.2.length s.val.2.length)]⟩
def edgesJ (t : List (List Port)) (l : List Port) (n : Nat) (s : {s : Nat × List Spot // s.1 ≤ l.length ∧ s.2 = edgesTo t n ++ edgeRow l n s.1}) : ASt :=
 ⟨[(18, .p (.d (.v (.int .i64 (s.val.1 : Int))))), (17, .p (.d (.v (.int .i64 (l.length : Int))))), (16, .p (.d (.sl 5 l.length (rowP l)))), (11, .p (.d (.v (.int .i64 (n : Int))))), (10, .p (.d (.v (.int .i64 (t.length : Int))))), (9, .p (.d (.sl 1 t.length (rowPP t)))), (4, .p (.d (.v (.int .i64 (n : Int))))), (3, .gr 3 s.val.2.length 2 s.val.2.length (rowS s.val.2)), (1, .p (.d (.bx (topoD t))))],
  [(3, .grow 86 2 s.val.2.length s.val.2.length)]⟩
set_option maxRecDepth 100000 in
set_option maxHeartbeats 2000000 in
theorem x164 (t : List (List Port)) (ht : small t) : ACalls Tryz.prog 149 [.agg (topoD t)] (· = [.d (.sl 2 (edgesT t).length (rowS (edgesT t)))]) := by
 have ht1 := ht.1
 unfold edgesT
 refine z12 Tryz.func149 rfl (by decide +kernel) (by rw [Tryz.ntmps149]; simp) ?_; rw [Tryz.ntmps149]; simp only [frOf]
 (repeat ((fail_if_success (show AWP _ _ (.region 2 _ _) _ _)); first | apply j0 | refine q8 rfl ?_ | refine z8 rfl ?_ | apply x7 | (refine j4 fun K hK => ?_) | (refine x5 fun K hK => ?_) | ((first | apply j6 | apply z7 | ((first | refine x4 (hK _ ?_) | refine x6 (hK _ _ j5 ?_)); clear hK K)); (first | show AWP _ _ _ _ _ | ((try simp only [j7]); first | show loopQ _ _ _ _ _ _ | show cutQ _ _ _ _ | show AWP _ _ _ _ _))) | ((first | refine x8 [] rfl ?_ | refine j8 [] rfl ?_); simp (disch := omega) only [go_sem, seval, portD, topoD, spotD]; (repeat (first | refine ⟨by omega, ?_⟩ | refine ⟨True.intro, ?_⟩)))))
 refine x31 3 3 2 86 (rowS []) rfl (by kernel_rfl) rfl ?_
 (repeat (first | apply j0 | refine q8 rfl ?_ | refine z8 rfl ?_ | apply x7 | (refine j4 fun K hK => ?_) | (refine x5 fun K hK => ?_) | ((first | apply j6 | apply z7 | ((first | refine x4 (hK _ ?_) | refine x6 (hK _ _ j5 ?_)); clear hK K)); (first | show AWP _ _ _ _ _ | ((try simp only [j7]); first | show loopQ _ _ _ _ _ _ | show cutQ _ _ _ _ | show AWP _ _ _ _ _))) | ((first | refine x8 [] rfl ?_ | refine j8 [] rfl ?_); simp (disch := omega) only [go_sem, seval, portD, topoD, spotD]; (repeat (first | refine ⟨by omega, ?_⟩ | refine ⟨True.intro, ?_⟩)))))
 refine x13 (edgesI t) (fun s => t.length - s.val.1) ⟨(0, []), Nat.zero_le _, rfl⟩ ?_ (fun s => ?_)
 ·unfold edgesI
  refine Weak.list ?_ ?_; (all_goals simp (disch := omega) only [AllF, AllL, x11, j11, z11, exists_eq_left', go_sem, seval, portD, topoD, spotD]); (all_goals (repeat' (with_reducible apply And.intro))); (all_goals try (first | exact q9 rfl | (refine q12 ?_; omega) | (refine q9 ?_; simp; done)))
 obtain ⟨⟨n, out⟩, hn, ho⟩ := s
 unfold edgesI
 simp only [] at hn ho ⊢
 by_cases h : n < t.length
 ·have l1 := z26 ht n
  have b1 := x59 ht n
  have r1 := q26 t n
  have st : edgesTo t (n + 1) = edgesTo t n ++ edgeRow (t.getD n []) n (t.getD n []).length := rfl
  rw [← ho] at b1
  generalize t.getD n [] = l at r1 l1 st
  (repeat (first | apply j0 | refine q8 rfl ?_ | refine z8 rfl ?_ | apply x7 | (refine j4 fun K hK => ?_) | (refine x5 fun K hK => ?_) | ((first | apply j6 | apply z7 | ((first | refine x4 (hK _ ?_) | refine x6 (hK _ _ j5 ?_)); clear hK K)); (first | show AWP _ _ _ _ _ | ((try simp only [j7]); first | show loopQ _ _ _ _ _ _ | show cutQ _ _ _ _ | show AWP _ _ _ _ _))) | ((first | refine x8 [] rfl ?_ | refine j8 [] rfl ?_); simp (disch := omega) only [go_sem, seval, portD, topoD, spotD, r1]; (repeat (first | refine ⟨by omega, ?_⟩ | refine ⟨True.intro, ?_⟩)))))
  refine x13 (edgesJ t l n) (fun s => l.length - s.val.1) ⟨(0, out), Nat.zero_le _, by rw [ho]; simp [edgeRow]⟩ ?_ (fun s => ?_)
  ·unfold edgesJ
   refine Weak.list ?_ ?_; (all_goals simp (disch := omega) only [AllF, AllL, x11, j11, z11, exists_eq_left', go_sem, seval, portD, topoD, spotD]); (all_goals (repeat' (with_reducible apply And.intro))); (all_goals try (first | exact q9 rfl | (refine q12 ?_; omega) | (refine q9 ?_; simp; done)))
  clear b1
  obtain ⟨⟨k, out⟩, hk, ho⟩ := s
  unfold edgesJ
  simp only [] at hk ho ⊢
  have b1 := x59 ht n
  have b2 := x72 l n k
  have b3 : out.length = (edgesTo t n).length + (edgeRow l n k).length := by rw [ho, List.length_append]
  by_cases h2 : k < l.length
  ·have r2 := q32 l k
   have so : edgesTo t n ++ edgeRow l n (k + 1) = out ++ if (l.getD k p0).kd = 1 then [⟨n, k⟩] else [] := by
    rw [ho, List.append_assoc]; rfl
   generalize l.getD k p0 = p at r2 so
   obtain ⟨kd, tn, pe, at', co⟩ := p
   simp only [portD] at r2 so
   by_cases h5 : kd = 1
   ·subst h5
    rw [if_pos rfl] at so
    (repeat (first | apply j0 | refine q8 rfl ?_ | refine z8 rfl ?_ | apply x7 | (refine j4 fun K hK => ?_) | (refine x5 fun K hK => ?_) | ((first | apply j6 | apply z7 | ((first | refine x4 (hK _ ?_) | refine x6 (hK _ _ j5 ?_)); clear hK K)); (first | show AWP _ _ _ _ _ | ((try simp only [j7]); first | show loopQ _ _ _ _ _ _ | show cutQ _ _ _ _ | show AWP _ _ _ _ _))) | ((first | refine x8 [] rfl ?_ | refine j8 [] rfl ?_); simp (disch := omega) only [go_sem, seval, portD, topoD, spotD, r2]; (repeat (first | refine ⟨by omega, ?_⟩ | refine ⟨True.intro, ?_⟩)))))
    refine ⟨⟨(k + 1, out ++ [⟨n, k⟩]), by simp only []; omega, so.symm⟩, by simp only []; omega, ?_⟩
    refine Weak.list ?_ ?_; (all_goals simp (disch := omega) only [AllF, AllL, x11, j11, z11, exists_eq_left', go_sem, seval, portD, topoD, spotD, r2]); (all_goals (repeat' (with_reducible apply And.intro))); (all_goals try (first | exact q9 rfl | (refine q12 ?_; omega) | (refine q9 ?_; simp; done)))
    ·exact q31 (by simp) (by simp) (fun j hj => j142 spotD s0 out ⟨n, k⟩ _ rfl j hj)
    ·exact q51 (by simp) (by simp)
   ·rw [if_neg h5, List.append_nil] at so
    have q : (kd == 1) = false := z16 h5
    (repeat (first | apply j0 | refine q8 rfl ?_ | refine z8 rfl ?_ | apply x7 | (refine j4 fun K hK => ?_) | (refine x5 fun K hK => ?_) | ((first | apply j6 | apply z7 | ((first | refine x4 (hK _ ?_) | refine x6 (hK _ _ j5 ?_)); clear hK K)); (first | show AWP _ _ _ _ _ | ((try simp only [j7]); first | show loopQ _ _ _ _ _ _ | show cutQ _ _ _ _ | show AWP _ _ _ _ _))) | ((first | refine x8 [] rfl ?_ | refine j8 [] rfl ?_); simp (disch := omega) only [go_sem, seval, portD, topoD, spotD, r2, q]; (repeat (first | refine ⟨by omega, ?_⟩ | refine ⟨True.intro, ?_⟩)))))
    refine ⟨⟨(k + 1, out), by simp only []; omega, so.symm⟩, by simp only []; omega, ?_⟩
    refine Weak.list ?_ ?_; (all_goals simp (disch := omega) only [AllF, AllL, x11, j11, z11, exists_eq_left', go_sem, seval, portD, topoD, spotD, r2, q]); (all_goals (repeat' (with_reducible apply And.intro))); (all_goals try (first | exact q9 rfl | (refine q12 ?_; omega) | (refine q9 ?_; simp; done)))
  ·have : k = l.length := by omega
   subst this
   (repeat (first | apply j0 | refine q8 rfl ?_ | refine z8 rfl ?_ | apply x7 | (refine j4 fun K hK => ?_) | (refine x5 fun K hK => ?_) | ((first | apply j6 | apply z7 | ((first | refine x4 (hK _ ?_) | refine x6 (hK _ _ j5 ?_)); clear hK K)); (first | show AWP _ _ _ _ _ | ((try simp only [j7]); first | show loopQ _ _ _ _ _ _ | show cutQ _ _ _ _ | show AWP _ _ _ _ _))) | ((first | refine x8 [] rfl ?_ | refine j8 [] rfl ?_); simp (disch := omega) only [go_sem, seval, portD, topoD, spotD]; (repeat (first | refine ⟨by omega, ?_⟩ | refine ⟨True.intro, ?_⟩)))))
   refine ⟨⟨(n + 1, out), by simp only []; omega, by rw [st]; exact ho⟩, by simp only []; omega, ?_⟩
   refine Weak.list ?_ ?_; (all_goals simp (disch := omega) only [AllF, AllL, x11, j11, z11, exists_eq_left', go_sem, seval, portD, topoD, spotD]); (all_goals (repeat' (with_reducible apply And.intro))); (all_goals try (first | exact q9 rfl | (refine q12 ?_; omega) | (refine q9 ?_; simp; done)))
 ·have : n = t.length := by omega
  subst this
  subst ho
  (repeat ((fail_if_success (show AWP _ _ (.region 12 _ _) _ _)); first | apply j0 | refine q8 rfl ?_ | refine z8 rfl ?_ | apply x7 | (refine j4 fun K hK => ?_) | (refine x5 fun K hK => ?_) | ((first | apply j6 | apply z7 | ((first | refine x4 (hK _ ?_) | refine x6 (hK _ _ j5 ?_)); clear hK K)); (first | show AWP _ _ _ _ _ | ((try simp only [j7]); first | show loopQ _ _ _ _ _ _ | show cutQ _ _ _ _ | show AWP _ _ _ _ _))) | ((first | refine x8 [] rfl ?_ | refine j8 [] rfl ?_); simp (disch := omega) only [go_sem, seval, portD, topoD, spotD]; (repeat (first | refine ⟨by omega, ?_⟩ | refine ⟨True.intro, ?_⟩)))))
  refine q16 3 _ (.p (.d (.sl 2 (edgesTo t t.length).length (rowS (edgesTo t t.length))))) rfl (x22 rfl (fun i hi => rfl)) ?_
  (repeat (first | apply j0 | refine q8 rfl ?_ | refine z8 rfl ?_ | apply x7 | (refine j4 fun K hK => ?_) | (refine x5 fun K hK => ?_) | ((first | apply j6 | apply z7 | ((first | refine x4 (hK _ ?_) | refine x6 (hK _ _ j5 ?_)); clear hK K)); (first | show AWP _ _ _ _ _ | ((try simp only [j7]); first | show loopQ _ _ _ _ _ _ | show cutQ _ _ _ _ | show AWP _ _ _ _ _))) | ((first | refine x8 [] rfl ?_ | refine j8 [] rfl ?_); simp (disch := omega) only [go_sem, seval, portD, topoD, spotD]; (repeat (first | refine ⟨by omega, ?_⟩ | refine ⟨True.intro, ?_⟩)))))
  refine q10 ⟨_, ?_, rfl⟩; rw [Tryz.results149]; simp (disch := omega) only [ResVars, ResVar, ptrLoc, go_sem, seval, portD, topoD, spotD]
end Go.Proofs.YtemcdefpihkfpaaGreat
namespace Go.Proofs.YtemcdefpihkfpaaGreat.AL
open Go
end Go.Proofs.YtemcdefpihkfpaaGreat.AL
namespace Go.Proofs.YtemcdefpihkfpaaGreat
open Go.Proofs.YtemcdefpihkfpaaGreat.AL
set_option maxHeartbeats 1000000 in
theorem eqA2 : EqTy Tryz.prog 134 [.i64, .i64] := by
 refine ⟨by kernel_rfl, fun w xs ys hx hy => ?_⟩
 rcases xs with _ | ⟨a1, _ | ⟨a2, _ | ⟨a3, ar⟩⟩⟩ <;> first | (simp at hx; done) | skip
 rcases ys with _ | ⟨b1, _ | ⟨b2, _ | ⟨b3, br⟩⟩⟩ <;> first | (simp at hy; done) | skip
 show (Op.equalIn (9999 + 1) 134 _ _).run _ _ = _
 unfold Op.equalIn
 simp [go_sem, ints, eqI, Tryz.underlying134]
 by_cases h1 : a1 = b1
 ·by_cases h2 : a2 = b2
  ·simp [h1, h2]
  ·simp [h1, h2]
 ·simp [h1]
structure Way where
 fr : Int
 to : Int
 via : Int
deriving DecidableEq
structure Policy where
 tn : Int
 peers : List (Int × Int)
 ways : List Way
deriving DecidableEq
def wayD (w : Way) : List Dat := [.v (.int .i64 w.fr), .v (.int .i64 w.to), .v (.int .i64 w.via)]
def w0 : Way := ⟨0, 0, 0⟩
def pairD (p : Int × Int) : List Dat := [.v (.int .i64 p.1), .v (.int .i64 p.2)]
def rowW (l : List Way) : Nat → List Dat := rowO wayD w0 l
def rowA (l : List (Int × Int)) : Nat → List Dat := rowO pairD (0, 0) l
theorem j72 (l : List Way) (i : Nat) : rowW l i = wayD (l.getD i w0) := rfl
theorem q73 (l : List (Int × Int)) (i : Nat) : rowA l i = pairD (l.getD i (0, 0)) := rfl
theorem rowS_at (l : List Spot) (i : Nat) : rowS l i = spotD (l.getD i s0) := rfl
def policyD (p : Policy) : List Dat := [.v (.int .i64 p.tn), .sl 2 p.peers.length (rowA p.peers), .sl 3 p.ways.length (rowW p.ways)]
def Policy.small (p : Policy) : Prop := p.peers.length ≤ 1099511627776 ∧ p.ways.length ≤ 1099511627776
def tenantP (p : Policy) (n : Int) : Bool := decide (0 ≤ n) && decide (n < p.tn)
theorem j43 (p : Policy) (n : Int) : ACalls Tryz.prog 150 [.agg (policyD p), .d (.v (.int .i64 n))] (· = [.d (.v (.bool (tenantP p n)))]) := by
 unfold tenantP
 by_cases h : 0 ≤ n
 ·rw [decide_eq_true h]
  refine z12 Tryz.func150 rfl (by decide +kernel) (by rw [Tryz.ntmps150]; simp) ?_; rw [Tryz.ntmps150]; simp only [frOf]
  (repeat (first | apply j0 | refine q8 rfl ?_ | refine z8 rfl ?_ | apply x7 | (refine j4 fun K hK => ?_) | (refine x5 fun K hK => ?_) | ((first | apply j6 | apply z7 | ((first | refine x4 (hK _ ?_) | refine x6 (hK _ _ j5 ?_)); clear hK K)); (first | show AWP _ _ _ _ _ | ((try simp only [j7]); first | show loopQ _ _ _ _ _ _ | show cutQ _ _ _ _ | show AWP _ _ _ _ _))) | ((first | refine x8 [] rfl ?_ | refine j8 [] rfl ?_); simp (disch := omega) only [go_sem, seval, policyD, wayD, pairD, spotD, eqA2, q13]; (repeat (first | refine ⟨by omega, ?_⟩ | refine ⟨True.intro, ?_⟩)))))
  refine q10 ⟨_, ?_, rfl⟩; rw [Tryz.results150]; simp (disch := omega) only [ResVars, ResVar, ptrLoc, go_sem, seval, policyD, wayD, pairD, spotD, eqA2, q13]
 ·rw [decide_eq_false h]
  refine z12 Tryz.func150 rfl (by decide +kernel) (by rw [Tryz.ntmps150]; simp) ?_; rw [Tryz.ntmps150]; simp only [frOf]
  (repeat (first | apply j0 | refine q8 rfl ?_ | refine z8 rfl ?_ | apply x7 | (refine j4 fun K hK => ?_) | (refine x5 fun K hK => ?_) | ((first | apply j6 | apply z7 | ((first | refine x4 (hK _ ?_) | refine x6 (hK _ _ j5 ?_)); clear hK K)); (first | show AWP _ _ _ _ _ | ((try simp only [j7]); first | show loopQ _ _ _ _ _ _ | show cutQ _ _ _ _ | show AWP _ _ _ _ _))) | ((first | refine x8 [] rfl ?_ | refine j8 [] rfl ?_); simp (disch := omega) only [go_sem, seval, policyD, wayD, pairD, spotD, eqA2, q13]; (repeat (first | refine ⟨by omega, ?_⟩ | refine ⟨True.intro, ?_⟩)))))
  refine q10 ⟨_, ?_, rfl⟩; rw [Tryz.results150]; simp (disch := omega) only [ResVars, ResVar, ptrLoc, go_sem, seval, policyD, wayD, pairD, spotD, eqA2, q13]
def rowRR (l : List (List Rule)) : Nat → List Dat := fun i => [.sl 12 (l.getD i []).length (rowR (l.getD i []))]
theorem q44 (l : List (List Rule)) (i : Nat) : rowRR l i = [.sl 12 (l.getD i []).length (rowR (l.getD i []))] := rfl
def smallR (t : List (List Rule)) : Prop := t.length ≤ 1048576 ∧ ∀ l ∈ t, l.length ≤ 1048576
theorem j36 {t : List (List Rule)} (h : smallR t) (i : Nat) : (t.getD i []).length ≤ 1048576 := by
 by_cases hi : i < t.length
 ·exact h.2 _ (z24 hi [])
 ·rw [List.getD_eq_getElem?_getD, List.getElem?_eq_none (by omega)]; simp
def sumR (ts : List (List Rule)) : Nat → Nat
 | 0 => 0
 | i + 1 => sumR ts i + (ts.getD i []).length
theorem x108 {ts : List (List Rule)} (h : smallR ts) : ∀ i, sumR ts i ≤ i * 1048576
 | 0 => Nat.le_refl _
 |i + 1 => by
  have h1 := x108 h i
  have h2 := j36 h i
  unfold sumR
  omega
def ruleOk (ts : List (List Rule)) (ps : List Port) (i k : Nat) : Bool := soundR ((ts.getD i []).getD k r0) i ps && decide (((ts.getD i []).getD k r0).tb < ts.length)
def tabOk (ts : List (List Rule)) (ps : List Port) (i : Nat) : Bool := allF (ruleOk ts ps i) (ts.getD i []).length 0
def soundTab (ts : List (List Rule)) (ps : List Port) : Int := if ts.length = 0 ∨ 3 < ts.length then 4 else if 96 < sumR ts ts.length then 12 else if allF (tabOk ts ps) ts.length 0 = true then 0 else 2
def tabI (ts : List (List Rule)) (ps : List Port) (i : Fin (ts.length + 1)) : ASt :=
 ⟨[(22, .p (.d (.v (.int .i64 (i.val : Int))))), (21, .p (.d (.v (.int .i64 (ts.length : Int))))), (20, .p (.d (.sl 1 ts.length (rowRR ts)))), (5, .p (.d (.v (.int .i64 (sumR ts i.val : Int))))), (1, .p (.d (.sl 5 ps.length (rowP ps)))), (0, .p (.d (.sl 1 ts.length (rowRR ts))))], []⟩
def tabJ (ts : List (List Rule)) (ps : List Port) (R : Int) (s : {i : Nat // i ≤ ts.length ∧ (if allF (tabOk ts ps) ts.length i = true then 0 else 2) = R}) : ASt :=
 ⟨[(35, .p (.d (.v (.int .i64 (s.val : Int))))), (34, .p (.d (.v (.int .i64 (ts.length : Int))))), (33, .p (.d (.sl 1 ts.length (rowRR ts)))), (1, .p (.d (.sl 5 ps.length (rowP ps)))), (0, .p (.d (.sl 1 ts.length (rowRR ts))))], []⟩
def tabK (ts : List (List Rule)) (ps : List Port) (R : Int) (i : Nat) (l : List Rule) (s : {k : Nat // k ≤ l.length ∧ (if (allF (ruleOk ts ps i) l.length k && allF (tabOk ts ps) ts.length (i + 1)) = true then 0 else 2) = R}) : ASt :=
 ⟨[(42, .p (.d (.v (.int .i64 (s.val : Int))))), (41, .p (.d (.v (.int .i64 (l.length : Int))))), (40, .p (.d (.sl 12 l.length (rowR l)))), (35, .p (.d (.v (.int .i64 (i : Int))))), (34, .p (.d (.v (.int .i64 (ts.length : Int))))), (33, .p (.d (.sl 1 ts.length (rowRR ts)))), (8, .p (.d (.v (.int .i64 (i : Int))))), (1, .p (.d (.sl 5 ps.length (rowP ps)))), (0, .p (.d (.sl 1 ts.length (rowRR ts))))], []⟩
set_option maxRecDepth 100000 in
set_option maxHeartbeats 4000000 in
theorem j164 (ts : List (List Rule)) (ps : List Port) (ht : smallR ts) (hp : ps.length ≤ 1048576) : ACalls Tryz.prog 111 [.d (.sl 1 ts.length (rowRR ts)), .d (.sl 5 ps.length (rowP ps))] (· = [.d (.v (.int .i64 (soundTab ts ps)))]) := by
 have hs := j36 ht
 have hsum := x108 ht
 have ht1 := ht.1
 unfold soundTab
 by_cases h0 : ts.length = 0
 ·rw [if_pos (.inl h0)]
  have q : ((ts.length : Int) == 0) = true := q17 (by omega)
  refine z12 Tryz.func111 rfl (by decide +kernel) (by rw [Tryz.ntmps111]; simp) ?_; rw [Tryz.ntmps111]; simp only [frOf]
  (repeat (first | apply j0 | refine q8 rfl ?_ | refine z8 rfl ?_ | apply x7 | (refine j4 fun K hK => ?_) | (refine x5 fun K hK => ?_) | ((first | apply j6 | apply z7 | ((first | refine x4 (hK _ ?_) | refine x6 (hK _ _ j5 ?_)); clear hK K)); (first | show AWP _ _ _ _ _ | ((try simp only [j7]); first | show loopQ _ _ _ _ _ _ | show cutQ _ _ _ _ | show AWP _ _ _ _ _))) | ((first | refine x8 [] rfl ?_ | refine j8 [] rfl ?_); simp (disch := omega) only [go_sem, seval, hd, cb, ruleD, portD, q]; (repeat (first | refine ⟨by omega, ?_⟩ | refine ⟨True.intro, ?_⟩)))))
  refine q10 ⟨_, ?_, rfl⟩; rw [Tryz.results111]; simp (disch := omega) only [ResVars, ResVar, ptrLoc, go_sem, seval, hd, cb, ruleD, portD, q]
 ·have q : ((ts.length : Int) == 0) = false := z16 (by omega)
  by_cases h3 : 3 < ts.length
  ·rw [if_pos (.inr h3)]
   refine z12 Tryz.func111 rfl (by decide +kernel) (by rw [Tryz.ntmps111]; simp) ?_; rw [Tryz.ntmps111]; simp only [frOf]
   (repeat (first | apply j0 | refine q8 rfl ?_ | refine z8 rfl ?_ | apply x7 | (refine j4 fun K hK => ?_) | (refine x5 fun K hK => ?_) | ((first | apply j6 | apply z7 | ((first | refine x4 (hK _ ?_) | refine x6 (hK _ _ j5 ?_)); clear hK K)); (first | show AWP _ _ _ _ _ | ((try simp only [j7]); first | show loopQ _ _ _ _ _ _ | show cutQ _ _ _ _ | show AWP _ _ _ _ _))) | ((first | refine x8 [] rfl ?_ | refine j8 [] rfl ?_); simp (disch := omega) only [go_sem, seval, hd, cb, ruleD, portD, q]; (repeat (first | refine ⟨by omega, ?_⟩ | refine ⟨True.intro, ?_⟩)))))
   refine q10 ⟨_, ?_, rfl⟩; rw [Tryz.results111]; simp (disch := omega) only [ResVars, ResVar, ptrLoc, go_sem, seval, hd, cb, ruleD, portD, q]
  ·rw [if_neg (by omega)]
   generalize hR : (if allF (tabOk ts ps) ts.length 0 = true then (0 : Int) else 2) = R
   refine z12 Tryz.func111 rfl (by decide +kernel) (by rw [Tryz.ntmps111]; simp) ?_; rw [Tryz.ntmps111]; simp only [frOf]
   (repeat (first | apply j0 | refine q8 rfl ?_ | refine z8 rfl ?_ | apply x7 | (refine j4 fun K hK => ?_) | (refine x5 fun K hK => ?_) | ((first | apply j6 | apply z7 | ((first | refine x4 (hK _ ?_) | refine x6 (hK _ _ j5 ?_)); clear hK K)); (first | show AWP _ _ _ _ _ | ((try simp only [j7]); first | show loopQ _ _ _ _ _ _ | show cutQ _ _ _ _ | show AWP _ _ _ _ _))) | ((first | refine x8 [] rfl ?_ | refine j8 [] rfl ?_); simp (disch := omega) only [go_sem, seval, hd, cb, ruleD, portD, q]; (repeat (first | refine ⟨by omega, ?_⟩ | refine ⟨True.intro, ?_⟩)))))
   refine x13 (tabI ts ps) (fun s => ts.length - s.val) ⟨0, by omega⟩ ?_ (fun s => ?_)
   ·unfold tabI
    refine Weak.list ?_ ?_; (all_goals simp (disch := omega) only [AllF, AllL, x11, j11, z11, exists_eq_left', go_sem, seval, hd, cb, ruleD, portD]); (all_goals (repeat' (with_reducible apply And.intro))); (all_goals try (first | exact q9 rfl | (refine q12 ?_; omega) | (refine q9 ?_; simp; done)))
   obtain ⟨i, hi⟩ := s
   unfold tabI
   have b1 := hsum i
   by_cases h : i < ts.length
   ·have st : sumR ts (i + 1) = sumR ts i + (ts.getD i []).length := rfl
    have r1 := q44 ts i
    have l1 := hs i
    generalize ts.getD i [] = l at r1 st l1
    (repeat (first | apply j0 | refine q8 rfl ?_ | refine z8 rfl ?_ | apply x7 | (refine j4 fun K hK => ?_) | (refine x5 fun K hK => ?_) | ((first | apply j6 | apply z7 | ((first | refine x4 (hK _ ?_) | refine x6 (hK _ _ j5 ?_)); clear hK K)); (first | show AWP _ _ _ _ _ | ((try simp only [j7]); first | show loopQ _ _ _ _ _ _ | show cutQ _ _ _ _ | show AWP _ _ _ _ _))) | ((first | refine x8 [] rfl ?_ | refine j8 [] rfl ?_); simp (disch := omega) only [go_sem, seval, hd, cb, ruleD, portD, r1]; (repeat (first | refine ⟨by omega, ?_⟩ | refine ⟨True.intro, ?_⟩)))))
    refine ⟨⟨i + 1, by omega⟩, by simp only []; omega, ?_⟩
    simp only [st]
    refine Weak.list ?_ ?_; (all_goals simp (disch := omega) only [AllF, AllL, x11, j11, z11, exists_eq_left', go_sem, seval, hd, cb, ruleD, portD, r1]); (all_goals (repeat' (with_reducible apply And.intro))); (all_goals try (first | exact q9 rfl | (refine q12 ?_; omega) | (refine q9 ?_; simp; done)))
   ·have e : i = ts.length := by omega
    subst e
    by_cases h96 : 96 < sumR ts ts.length
    ·rw [if_pos h96]
     (repeat (first | apply j0 | refine q8 rfl ?_ | refine z8 rfl ?_ | apply x7 | (refine j4 fun K hK => ?_) | (refine x5 fun K hK => ?_) | ((first | apply j6 | apply z7 | ((first | refine x4 (hK _ ?_) | refine x6 (hK _ _ j5 ?_)); clear hK K)); (first | show AWP _ _ _ _ _ | ((try simp only [j7]); first | show loopQ _ _ _ _ _ _ | show cutQ _ _ _ _ | show AWP _ _ _ _ _))) | ((first | refine x8 [] rfl ?_ | refine j8 [] rfl ?_); simp (disch := omega) only [go_sem, seval, hd, cb, ruleD, portD]; (repeat (first | refine ⟨by omega, ?_⟩ | refine ⟨True.intro, ?_⟩)))))
     refine q10 ⟨_, ?_, rfl⟩; rw [Tryz.results111]; simp (disch := omega) only [ResVars, ResVar, ptrLoc, go_sem, seval, hd, cb, ruleD, portD]
    ·rw [if_neg h96]
     (repeat (first | apply j0 | refine q8 rfl ?_ | refine z8 rfl ?_ | apply x7 | (refine j4 fun K hK => ?_) | (refine x5 fun K hK => ?_) | ((first | apply j6 | apply z7 | ((first | refine x4 (hK _ ?_) | refine x6 (hK _ _ j5 ?_)); clear hK K)); (first | show AWP _ _ _ _ _ | ((try simp only [j7]); first | show loopQ _ _ _ _ _ _ | show cutQ _ _ _ _ | show AWP _ _ _ _ _))) | ((first | refine x8 [] rfl ?_ | refine j8 [] rfl ?_); simp (disch := omega) only [go_sem, seval, hd, cb, ruleD, portD]; (repeat (first | refine ⟨by omega, ?_⟩ | refine ⟨True.intro, ?_⟩)))))
     refine x13 (tabJ ts ps R) (fun s => ts.length - s.val) ⟨0, Nat.zero_le _, hR⟩ ?_ (fun s => ?_)
     ·unfold tabJ
      refine Weak.list ?_ ?_; (all_goals simp (disch := omega) only [AllF, AllL, x11, j11, z11, exists_eq_left', go_sem, seval, hd, cb, ruleD, portD]); (all_goals (repeat' (with_reducible apply And.intro))); (all_goals try (first | exact q9 rfl | (refine q12 ?_; omega) | (refine q9 ?_; simp; done)))
     clear hi h b1
     obtain ⟨i, hi, hr⟩ := s
     unfold tabJ
     simp only [] at hi hr ⊢
     by_cases h : i < ts.length
     ·rw [z21 h] at hr
      have hq : tabOk ts ps i = allF (ruleOk ts ps i) (ts.getD i []).length 0 := rfl
      rw [hq] at hr
      have hk0 : ∀ k, ruleOk ts ps i k = (soundR ((ts.getD i []).getD k r0) i ps && decide (((ts.getD i []).getD k r0).tb < ts.length)) := fun k => rfl
      have r1 := q44 ts i
      have l1 := hs i
      generalize ts.getD i [] = l at r1 hr l1 hk0
      (repeat (first | apply j0 | refine q8 rfl ?_ | refine z8 rfl ?_ | apply x7 | (refine j4 fun K hK => ?_) | (refine x5 fun K hK => ?_) | ((first | apply j6 | apply z7 | ((first | refine x4 (hK _ ?_) | refine x6 (hK _ _ j5 ?_)); clear hK K)); (first | show AWP _ _ _ _ _ | ((try simp only [j7]); first | show loopQ _ _ _ _ _ _ | show cutQ _ _ _ _ | show AWP _ _ _ _ _))) | ((first | refine x8 [] rfl ?_ | refine j8 [] rfl ?_); simp (disch := omega) only [go_sem, seval, hd, cb, ruleD, portD, r1]; (repeat (first | refine ⟨by omega, ?_⟩ | refine ⟨True.intro, ?_⟩)))))
      refine x13 (tabK ts ps R i l) (fun s => l.length - s.val) ⟨0, Nat.zero_le _, hr⟩ ?_ (fun s => ?_)
      ·unfold tabK
       refine Weak.list ?_ ?_; (all_goals simp (disch := omega) only [AllF, AllL, x11, j11, z11, exists_eq_left', go_sem, seval, hd, cb, ruleD, portD]); (all_goals (repeat' (with_reducible apply And.intro))); (all_goals try (first | exact q9 rfl | (refine q12 ?_; omega) | (refine q9 ?_; simp; done)))
      clear hr
      obtain ⟨k, hk, hr⟩ := s
      unfold tabK
      simp only [] at hk hr ⊢
      by_cases h2 : k < l.length
      ·rw [z21 h2, hk0 k] at hr
       have r2 := z20 l k
       generalize l.getD k r0 = x at hr r2
       have c := x143 x i ps (by omega)
       generalize soundR x i ps = b at hr c
       cases b
       ·simp only [Bool.false_and, Bool.false_eq_true, if_false] at hr
        subst hr
        (repeat (first | apply j0 | refine q8 rfl ?_ | refine z8 rfl ?_ | apply x7 | (refine j4 fun K hK => ?_) | (refine x5 fun K hK => ?_) | ((first | apply j6 | apply z7 | ((first | refine x4 (hK _ ?_) | refine x6 (hK _ _ j5 ?_)); clear hK K)); (first | show AWP _ _ _ _ _ | ((try simp only [j7]); first | show loopQ _ _ _ _ _ _ | show cutQ _ _ _ _ | show AWP _ _ _ _ _))) | ((first | refine j10 rfl rfl rfl ?_ | refine q11 rfl rfl rfl ?_); simp (disch := omega) only [go_sem, seval, hd, cb, ruleD, portD, r2]; (first | refine ⟨_, c, ?_⟩)) | ((first | refine x8 [] rfl ?_ | refine j8 [] rfl ?_); simp (disch := omega) only [go_sem, seval, hd, cb, ruleD, portD, r2]; (repeat (first | refine ⟨by omega, ?_⟩ | refine ⟨True.intro, ?_⟩)))))
        refine q10 ⟨_, ?_, rfl⟩; rw [Tryz.results111]; simp (disch := omega) only [ResVars, ResVar, ptrLoc, go_sem, seval, hd, cb, ruleD, portD, r2]
       ·rw [Bool.true_and] at hr
        by_cases h5 : x.tb < ts.length
        ·rw [decide_eq_true h5, Bool.true_and] at hr
         (repeat (first | apply j0 | refine q8 rfl ?_ | refine z8 rfl ?_ | apply x7 | (refine j4 fun K hK => ?_) | (refine x5 fun K hK => ?_) | ((first | apply j6 | apply z7 | ((first | refine x4 (hK _ ?_) | refine x6 (hK _ _ j5 ?_)); clear hK K)); (first | show AWP _ _ _ _ _ | ((try simp only [j7]); first | show loopQ _ _ _ _ _ _ | show cutQ _ _ _ _ | show AWP _ _ _ _ _))) | ((first | refine j10 rfl rfl rfl ?_ | refine q11 rfl rfl rfl ?_); simp (disch := omega) only [go_sem, seval, hd, cb, ruleD, portD, r2]; (first | refine ⟨_, c, ?_⟩)) | ((first | refine x8 [] rfl ?_ | refine j8 [] rfl ?_); simp (disch := omega) only [go_sem, seval, hd, cb, ruleD, portD, r2]; (repeat (first | refine ⟨by omega, ?_⟩ | refine ⟨True.intro, ?_⟩)))))
         refine ⟨⟨k + 1, by omega, hr⟩, by simp only []; omega, ?_⟩
         refine Weak.list ?_ ?_; (all_goals simp (disch := omega) only [AllF, AllL, x11, j11, z11, exists_eq_left', go_sem, seval, hd, cb, ruleD, portD, r2]); (all_goals (repeat' (with_reducible apply And.intro))); (all_goals try (first | exact q9 rfl | (refine q12 ?_; omega) | (refine q9 ?_; simp; done)))
        ·rw [decide_eq_false h5] at hr
         simp only [Bool.false_and, Bool.false_eq_true, if_false] at hr
         subst hr
         (repeat (first | apply j0 | refine q8 rfl ?_ | refine z8 rfl ?_ | apply x7 | (refine j4 fun K hK => ?_) | (refine x5 fun K hK => ?_) | ((first | apply j6 | apply z7 | ((first | refine x4 (hK _ ?_) | refine x6 (hK _ _ j5 ?_)); clear hK K)); (first | show AWP _ _ _ _ _ | ((try simp only [j7]); first | show loopQ _ _ _ _ _ _ | show cutQ _ _ _ _ | show AWP _ _ _ _ _))) | ((first | refine j10 rfl rfl rfl ?_ | refine q11 rfl rfl rfl ?_); simp (disch := omega) only [go_sem, seval, hd, cb, ruleD, portD, r2]; (first | refine ⟨_, c, ?_⟩)) | ((first | refine x8 [] rfl ?_ | refine j8 [] rfl ?_); simp (disch := omega) only [go_sem, seval, hd, cb, ruleD, portD, r2]; (repeat (first | refine ⟨by omega, ?_⟩ | refine ⟨True.intro, ?_⟩)))))
         refine q10 ⟨_, ?_, rfl⟩; rw [Tryz.results111]; simp (disch := omega) only [ResVars, ResVar, ptrLoc, go_sem, seval, hd, cb, ruleD, portD, r2]
      ·rw [x21 (show l.length ≤ k by omega), Bool.true_and] at hr
       (repeat (first | apply j0 | refine q8 rfl ?_ | refine z8 rfl ?_ | apply x7 | (refine j4 fun K hK => ?_) | (refine x5 fun K hK => ?_) | ((first | apply j6 | apply z7 | ((first | refine x4 (hK _ ?_) | refine x6 (hK _ _ j5 ?_)); clear hK K)); (first | show AWP _ _ _ _ _ | ((try simp only [j7]); first | show loopQ _ _ _ _ _ _ | show cutQ _ _ _ _ | show AWP _ _ _ _ _))) | ((first | refine x8 [] rfl ?_ | refine j8 [] rfl ?_); simp (disch := omega) only [go_sem, seval, hd, cb, ruleD, portD]; (repeat (first | refine ⟨by omega, ?_⟩ | refine ⟨True.intro, ?_⟩)))))
       refine ⟨⟨i + 1, by omega, hr⟩, by simp only []; omega, ?_⟩
       refine Weak.list ?_ ?_; (all_goals simp (disch := omega) only [AllF, AllL, x11, j11, z11, exists_eq_left', go_sem, seval, hd, cb, ruleD, portD]); (all_goals (repeat' (with_reducible apply And.intro))); (all_goals try (first | exact q9 rfl | (refine q12 ?_; omega) | (refine q9 ?_; simp; done)))
     ·rw [x21 (by omega), if_pos rfl] at hr
      subst hr
      (repeat (first | apply j0 | refine q8 rfl ?_ | refine z8 rfl ?_ | apply x7 | (refine j4 fun K hK => ?_) | (refine x5 fun K hK => ?_) | ((first | apply j6 | apply z7 | ((first | refine x4 (hK _ ?_) | refine x6 (hK _ _ j5 ?_)); clear hK K)); (first | show AWP _ _ _ _ _ | ((try simp only [j7]); first | show loopQ _ _ _ _ _ _ | show cutQ _ _ _ _ | show AWP _ _ _ _ _))) | ((first | refine x8 [] rfl ?_ | refine j8 [] rfl ?_); simp (disch := omega) only [go_sem, seval, hd, cb, ruleD, portD]; (repeat (first | refine ⟨by omega, ?_⟩ | refine ⟨True.intro, ?_⟩)))))
      refine q10 ⟨_, ?_, rfl⟩; rw [Tryz.results111]; simp (disch := omega) only [ResVars, ResVar, ptrLoc, go_sem, seval, hd, cb, ruleD, portD]
def rowTT (l : List (List (List Rule))) : Nat → List Dat := fun i => [.sl 1 (l.getD i []).length (rowRR (l.getD i []))]
theorem j59 (l : List (List (List Rule))) (i : Nat) : rowTT l i = [.sl 1 (l.getD i []).length (rowRR (l.getD i []))] := rfl
structure Config where
 tp : List (List Port)
 po : Policy
 tb : List (List (List Rule))
def configD (c : Config) : List Dat := [.sl 1 c.tp.length (rowPP c.tp), .v (.int .i64 c.po.tn), .sl 2 c.po.peers.length (rowA c.po.peers), .sl 3 c.po.ways.length (rowW c.po.ways), .sl 1 c.tb.length (rowTT c.tb)]
structure Config.small (c : Config) : Prop where
 tp : Go.Proofs.YtemcdefpihkfpaaGreat.small c.tp
 po : c.po.small
 tb : c.tb.length ≤ 1048576
 tabs : ∀ t ∈ c.tb, smallR t
theorem q165 : smallR [] := ⟨by simp, fun l h => by simp at h⟩
theorem Config.small.at {c : Config} (h : c.small) (i : Nat) : smallR (c.tb.getD i []) := by
 by_cases hi : i < c.tb.length
 ·exact h.tabs _ (z24 hi [])
 ·rw [List.getD_eq_getElem?_getD, List.getElem?_eq_none (by omega)]; exact q165
theorem z165 {t : List (List Port)} {s : Spot} (h : s ∈ edgesT t) : ∃ i j : Nat, s = ⟨i, j⟩ ∧ i < t.length ∧ j < (t.getD i []).length ∧ edgeT t s = ((t.getD i []).getD j p0).tn := by
 obtain ⟨i, j, h1, h2, h3, rfl⟩ := z108.1 h
 refine ⟨i, j, rfl, h1, h2, ?_⟩
 unfold edgeT
 rw [if_neg (by simp only []; omega), if_neg (by simp only [Int.toNat_natCast]; omega), if_pos (by simp only [Int.toNat_natCast]; exact h3)]
 simp only [Int.toNat_natCast]
def edgeOk (c : Config) (i : Nat) : Bool := tenantP c.po (edgeT c.tp ((edgesT c.tp).getD i s0))
def sizesB (c : Config) : Bool := allF (edgeOk c) (edgesT c.tp).length 0
def sizesC (c : Config) : Bool := if c.po.tn < 1 ∨ 4 < c.po.tn ∨ 16 < c.po.peers.length ∨ 4 < c.po.ways.length then false else sizesB c
theorem x165 (tn : Int) (a b : Nat) : tn < 1 ∨ (¬ tn < 1 ∧ 4 < tn) ∨ (¬ tn < 1 ∧ ¬ 4 < tn ∧ 16 < a) ∨ (¬ tn < 1 ∧ ¬ 4 < tn ∧ ¬ 16 < a ∧ 4 < b) ∨ (¬ tn < 1 ∧ ¬ 4 < tn ∧ ¬ 16 < a ∧ ¬ 4 < b) := by omega
def sizesI (c : Config) (l : List Spot) (R : Bool) (s : {i : Nat // i ≤ l.length ∧ allF (edgeOk c) l.length i = R}) : ASt :=
 ⟨[(32, .p (.d (.v (.int .i64 (s.val : Int))))), (31, .p (.d (.v (.int .i64 (l.length : Int))))), (30, .p (.d (.sl 2 l.length (rowS l)))), (3, .loc 3 0), (1, .p (.d (.bx (configD c))))],
  [(3, .cells 81 [.p (.d (.v (.int .i64 c.po.tn))), .p (.d (.sl 2 c.po.peers.length (rowA c.po.peers))), .p (.d (.sl 3 c.po.ways.length (rowW c.po.ways)))])]⟩
set_option maxRecDepth 100000 in
set_option maxHeartbeats 4000000 in
theorem sizes_c (c : Config) (hc : c.small) : ACalls Tryz.prog 109 [.agg (configD c)] (· = [.d (.v (.bool (sizesC c)))]) := by
 have hp := hc.po
 have hl1 := hp.1
 have hl2 := hp.2
 have ed := x164 c.tp hc.tp
 have eb := x59 hc.tp c.tp.length
 have et := hc.tp.1
 rw [show edgesTo c.tp c.tp.length = edgesT c.tp from rfl] at eb
 unfold sizesC
 simp only [topoD] at ed
 rcases x165 c.po.tn c.po.peers.length c.po.ways.length with h1 | ⟨h1, h2⟩ | ⟨h1, h2, h3⟩ | ⟨h1, h2, h3, h4⟩ | ⟨h1, h2, h3, h4⟩
 case' inr.inr.inr.inr =>
  rw [if_neg (by omega)]
  unfold sizesB
  have hin := fun i (h : i < (edgesT c.tp).length) => z165 (z24 h s0)
  have hok : ∀ i, edgeOk c i = tenantP c.po (edgeT c.tp ((edgesT c.tp).getD i s0)) := fun i => rfl
  generalize edgesT c.tp = l at ed eb hin hok
  generalize hR : allF (edgeOk c) l.length 0 = R
  refine z12 Tryz.func109 rfl (by decide +kernel) (by rw [Tryz.ntmps109]; simp) ?_; rw [Tryz.ntmps109]; simp only [frOf]
  (repeat (first | apply j0 | refine q8 rfl ?_ | refine z8 rfl ?_ | apply x7 | (refine j4 fun K hK => ?_) | (refine x5 fun K hK => ?_) | ((first | apply j6 | apply z7 | ((first | refine x4 (hK _ ?_) | refine x6 (hK _ _ j5 ?_)); clear hK K)); (first | show AWP _ _ _ _ _ | ((try simp only [j7]); first | show loopQ _ _ _ _ _ _ | show cutQ _ _ _ _ | show AWP _ _ _ _ _))) | ((first | refine j10 rfl rfl rfl ?_ | refine q11 rfl rfl rfl ?_); simp (disch := omega) only [go_sem, seval, policyD, wayD, pairD, spotD, topoD, configD, q13]; (first | refine ⟨_, ed, ?_⟩)) | ((first | refine x8 [] rfl ?_ | refine j8 [] rfl ?_); simp (disch := omega) only [go_sem, seval, policyD, wayD, pairD, spotD, topoD, configD, q13]; (repeat (first | refine ⟨by omega, ?_⟩ | refine ⟨True.intro, ?_⟩)))))
  refine x13 (sizesI c l R) (fun s => l.length - s.val) ⟨0, Nat.zero_le _, hR⟩ ?_ (fun s => ?_)
  ·unfold sizesI
   refine Weak.list ?_ ?_; (all_goals simp (disch := omega) only [AllF, AllL, x11, j11, z11, exists_eq_left', go_sem, seval, policyD, wayD, pairD, spotD, topoD, configD, q13]); (all_goals (repeat' (with_reducible apply And.intro))); (all_goals try (first | exact q9 rfl | (refine q12 ?_; omega) | (refine q9 ?_; simp; done)))
  obtain ⟨i, hi, hr⟩ := s
  unfold sizesI
  simp only [] at hi hr ⊢
  by_cases h : i < l.length
  ·rw [z21 h, hok] at hr
   have r1 := rowS_at l i
   obtain ⟨n, k, e1, e2, e3, e4⟩ := hin i h
   rw [e4] at hr
   rw [e1] at r1
   simp only [spotD] at r1
   have r2 := q26 c.tp n
   have r3 := q32 (c.tp.getD n []) k
   have l1 := z26 hc.tp n
   generalize c.tp.getD n [] = ps at r2 r3 e3 hr l1
   generalize ps.getD k p0 = p at r3 hr
   obtain ⟨kd, tn, pe, at', co⟩ := p
   simp only [portD] at r3
   simp only [] at hr
   have ct := j43 c.po tn
   simp only [policyD] at ct
   generalize tenantP c.po tn = b at hr ct
   cases b
   ·rw [Bool.false_and] at hr
    subst hr
    (repeat (first | apply j0 | refine q8 rfl ?_ | refine z8 rfl ?_ | apply x7 | (refine j4 fun K hK => ?_) | (refine x5 fun K hK => ?_) | ((first | apply j6 | apply z7 | ((first | refine x4 (hK _ ?_) | refine x6 (hK _ _ j5 ?_)); clear hK K)); (first | show AWP _ _ _ _ _ | ((try simp only [j7]); first | show loopQ _ _ _ _ _ _ | show cutQ _ _ _ _ | show AWP _ _ _ _ _))) | ((first | refine j10 rfl rfl rfl ?_ | refine q11 rfl rfl rfl ?_); simp (disch := omega) only [go_sem, seval, policyD, wayD, pairD, spotD, topoD, configD, q13, r1, r2, r3]; (first | refine ⟨_, ct, ?_⟩)) | ((first | refine x8 [] rfl ?_ | refine j8 [] rfl ?_); simp (disch := omega) only [go_sem, seval, policyD, wayD, pairD, spotD, topoD, configD, q13, r1, r2, r3]; (repeat (first | refine ⟨by omega, ?_⟩ | refine ⟨True.intro, ?_⟩)))))
    refine q10 ⟨_, ?_, rfl⟩; rw [Tryz.results109]; simp (disch := omega) only [ResVars, ResVar, ptrLoc, go_sem, seval, policyD, wayD, pairD, spotD, topoD, configD, q13, r1, r2, r3]
   ·rw [Bool.true_and] at hr
    (repeat (first | apply j0 | refine q8 rfl ?_ | refine z8 rfl ?_ | apply x7 | (refine j4 fun K hK => ?_) | (refine x5 fun K hK => ?_) | ((first | apply j6 | apply z7 | ((first | refine x4 (hK _ ?_) | refine x6 (hK _ _ j5 ?_)); clear hK K)); (first | show AWP _ _ _ _ _ | ((try simp only [j7]); first | show loopQ _ _ _ _ _ _ | show cutQ _ _ _ _ | show AWP _ _ _ _ _))) | ((first | refine j10 rfl rfl rfl ?_ | refine q11 rfl rfl rfl ?_); simp (disch := omega) only [go_sem, seval, policyD, wayD, pairD, spotD, topoD, configD, q13, r1, r2, r3]; (first | refine ⟨_, ct, ?_⟩)) | ((first | refine x8 [] rfl ?_ | refine j8 [] rfl ?_); simp (disch := omega) only [go_sem, seval, policyD, wayD, pairD, spotD, topoD, configD, q13, r1, r2, r3]; (repeat (first | refine ⟨by omega, ?_⟩ | refine ⟨True.intro, ?_⟩)))))
    refine ⟨⟨i + 1, by omega, hr⟩, by simp only []; omega, ?_⟩
    refine Weak.list ?_ ?_; (all_goals simp (disch := omega) only [AllF, AllL, x11, j11, z11, exists_eq_left', go_sem, seval, policyD, wayD, pairD, spotD, topoD, configD, q13, r1, r2, r3]); (all_goals (repeat' (with_reducible apply And.intro))); (all_goals try (first | exact q9 rfl | (refine q12 ?_; omega) | (refine q9 ?_; simp; done)))
  ·rw [x21 (by omega)] at hr
   subst hr
   (repeat (first | apply j0 | refine q8 rfl ?_ | refine z8 rfl ?_ | apply x7 | (refine j4 fun K hK => ?_) | (refine x5 fun K hK => ?_) | ((first | apply j6 | apply z7 | ((first | refine x4 (hK _ ?_) | refine x6 (hK _ _ j5 ?_)); clear hK K)); (first | show AWP _ _ _ _ _ | ((try simp only [j7]); first | show loopQ _ _ _ _ _ _ | show cutQ _ _ _ _ | show AWP _ _ _ _ _))) | ((first | refine x8 [] rfl ?_ | refine j8 [] rfl ?_); simp (disch := omega) only [go_sem, seval, policyD, wayD, pairD, spotD, topoD, configD, q13]; (repeat (first | refine ⟨by omega, ?_⟩ | refine ⟨True.intro, ?_⟩)))))
   refine q10 ⟨_, ?_, rfl⟩; rw [Tryz.results109]; simp (disch := omega) only [ResVars, ResVar, ptrLoc, go_sem, seval, policyD, wayD, pairD, spotD, topoD, configD, q13]
 all_goals
  rw [if_pos (by omega)]
  refine z12 Tryz.func109 rfl (by decide +kernel) (by rw [Tryz.ntmps109]; simp) ?_; rw [Tryz.ntmps109]; simp only [frOf]
  (repeat (first | apply j0 | refine q8 rfl ?_ | refine z8 rfl ?_ | apply x7 | (refine j4 fun K hK => ?_) | (refine x5 fun K hK => ?_) | ((first | apply j6 | apply z7 | ((first | refine x4 (hK _ ?_) | refine x6 (hK _ _ j5 ?_)); clear hK K)); (first | show AWP _ _ _ _ _ | ((try simp only [j7]); first | show loopQ _ _ _ _ _ _ | show cutQ _ _ _ _ | show AWP _ _ _ _ _))) | ((first | refine x8 [] rfl ?_ | refine j8 [] rfl ?_); simp (disch := omega) only [go_sem, seval, policyD, wayD, pairD, spotD, topoD, configD, q13]; (repeat (first | refine ⟨by omega, ?_⟩ | refine ⟨True.intro, ?_⟩)))))
  refine q10 ⟨_, ?_, rfl⟩; rw [Tryz.results109]; simp (disch := omega) only [ResVars, ResVar, ptrLoc, go_sem, seval, policyD, wayD, pairD, spotD, topoD, configD, q13]
def pairOk (c : Config) (i : Nat) : Bool := tenantP c.po (c.po.peers.getD i (0, 0)).1 && tenantP c.po (c.po.peers.getD i (0, 0)).2
def wayOk (c : Config) (i : Nat) : Bool := tenantP c.po (c.po.ways.getD i w0).fr && tenantP c.po (c.po.ways.getD i w0).to && decide (0 ≤ (c.po.ways.getD i w0).via) && decide ((c.po.ways.getD i w0).via < c.tp.length)
def policyC (c : Config) : Bool := allF (pairOk c) c.po.peers.length 0 && allF (wayOk c) c.po.ways.length 0
def polyI (c : Config) (R : Bool) (s : {i : Nat // i ≤ c.po.peers.length ∧ (allF (pairOk c) c.po.peers.length i && allF (wayOk c) c.po.ways.length 0) = R}) : ASt :=
 ⟨[(13, .p (.d (.v (.int .i64 (s.val : Int))))), (12, .p (.d (.v (.int .i64 (c.po.peers.length : Int))))), (11, .p (.d (.sl 2 c.po.peers.length (rowA c.po.peers)))), (3, .loc 3 0), (1, .p (.d (.bx (configD c))))],
  [(3, .cells 81 [.p (.d (.v (.int .i64 c.po.tn))), .p (.d (.sl 2 c.po.peers.length (rowA c.po.peers))), .p (.d (.sl 3 c.po.ways.length (rowW c.po.ways)))])]⟩
def polyJ (c : Config) (R : Bool) (s : {i : Nat // i ≤ c.po.ways.length ∧ allF (wayOk c) c.po.ways.length i = R}) : ASt :=
 ⟨[(33, .p (.d (.v (.int .i64 (s.val : Int))))), (32, .p (.d (.v (.int .i64 (c.po.ways.length : Int))))), (31, .p (.d (.sl 3 c.po.ways.length (rowW c.po.ways)))), (3, .loc 3 0), (1, .p (.d (.bx (configD c))))],
  [(3, .cells 81 [.p (.d (.v (.int .i64 c.po.tn))), .p (.d (.sl 2 c.po.peers.length (rowA c.po.peers))), .p (.d (.sl 3 c.po.ways.length (rowW c.po.ways)))])]⟩
set_option maxRecDepth 100000 in
set_option maxHeartbeats 4000000 in
theorem j165 (c : Config) (hc : c.small) : ACalls Tryz.prog 110 [.agg (configD c)] (· = [.d (.v (.bool (policyC c)))]) := by
 have hl1 := hc.po.1
 have hl2 := hc.po.2
 have et := hc.tp.1
 unfold policyC
 generalize hR : (allF (pairOk c) c.po.peers.length 0 && allF (wayOk c) c.po.ways.length 0) = R
 refine z12 Tryz.func110 rfl (by decide +kernel) (by rw [Tryz.ntmps110]; simp) ?_; rw [Tryz.ntmps110]; simp only [frOf]
 (repeat (first | apply j0 | refine q8 rfl ?_ | refine z8 rfl ?_ | apply x7 | (refine j4 fun K hK => ?_) | (refine x5 fun K hK => ?_) | ((first | apply j6 | apply z7 | ((first | refine x4 (hK _ ?_) | refine x6 (hK _ _ j5 ?_)); clear hK K)); (first | show AWP _ _ _ _ _ | ((try simp only [j7]); first | show loopQ _ _ _ _ _ _ | show cutQ _ _ _ _ | show AWP _ _ _ _ _))) | ((first | refine x8 [] rfl ?_ | refine j8 [] rfl ?_); simp (disch := omega) only [go_sem, seval, policyD, wayD, pairD, spotD, topoD, configD, q13]; (repeat (first | refine ⟨by omega, ?_⟩ | refine ⟨True.intro, ?_⟩)))))
 refine x13 (polyI c R) (fun s => c.po.peers.length - s.val) ⟨0, Nat.zero_le _, hR⟩ ?_ (fun s => ?_)
 ·unfold polyI
  refine Weak.list ?_ ?_; (all_goals simp (disch := omega) only [AllF, AllL, x11, j11, z11, exists_eq_left', go_sem, seval, policyD, wayD, pairD, spotD, topoD, configD, q13]); (all_goals (repeat' (with_reducible apply And.intro))); (all_goals try (first | exact q9 rfl | (refine q12 ?_; omega) | (refine q9 ?_; simp; done)))
 obtain ⟨i, hi, hr⟩ := s
 unfold polyI
 simp only [] at hi hr ⊢
 by_cases h : i < c.po.peers.length
 ·have hok : pairOk c i = (tenantP c.po (c.po.peers.getD i (0, 0)).1 && tenantP c.po (c.po.peers.getD i (0, 0)).2) := rfl
  rw [z21 h, hok] at hr
  have r1 := q73 c.po.peers i
  generalize c.po.peers.getD i (0, 0) = x at r1 hr
  obtain ⟨x1, x2⟩ := x
  simp only [pairD] at r1
  simp only [] at hr
  have c1 := j43 c.po x1
  have c2 := j43 c.po x2
  simp only [policyD] at c1 c2
  generalize tenantP c.po x1 = b1 at c1 hr
  generalize tenantP c.po x2 = b2 at c2 hr
  cases b1
  ·simp only [Bool.false_and] at hr
   subst hr
   (repeat (first | apply j0 | refine q8 rfl ?_ | refine z8 rfl ?_ | apply x7 | (refine j4 fun K hK => ?_) | (refine x5 fun K hK => ?_) | ((first | apply j6 | apply z7 | ((first | refine x4 (hK _ ?_) | refine x6 (hK _ _ j5 ?_)); clear hK K)); (first | show AWP _ _ _ _ _ | ((try simp only [j7]); first | show loopQ _ _ _ _ _ _ | show cutQ _ _ _ _ | show AWP _ _ _ _ _))) | ((first | refine j10 rfl rfl rfl ?_ | refine q11 rfl rfl rfl ?_); simp (disch := omega) only [go_sem, seval, policyD, wayD, pairD, spotD, topoD, configD, q13, r1]; (first | refine ⟨_, c1, ?_⟩)) | ((first | refine x8 [] rfl ?_ | refine j8 [] rfl ?_); simp (disch := omega) only [go_sem, seval, policyD, wayD, pairD, spotD, topoD, configD, q13, r1]; (repeat (first | refine ⟨by omega, ?_⟩ | refine ⟨True.intro, ?_⟩)))))
   refine q10 ⟨_, ?_, rfl⟩; rw [Tryz.results110]; simp (disch := omega) only [ResVars, ResVar, ptrLoc, go_sem, seval, policyD, wayD, pairD, spotD, topoD, configD, q13, r1]
  ·cases b2
   ·simp only [Bool.true_and, Bool.false_and] at hr
    subst hr
    (repeat (first | apply j0 | refine q8 rfl ?_ | refine z8 rfl ?_ | apply x7 | (refine j4 fun K hK => ?_) | (refine x5 fun K hK => ?_) | ((first | apply j6 | apply z7 | ((first | refine x4 (hK _ ?_) | refine x6 (hK _ _ j5 ?_)); clear hK K)); (first | show AWP _ _ _ _ _ | ((try simp only [j7]); first | show loopQ _ _ _ _ _ _ | show cutQ _ _ _ _ | show AWP _ _ _ _ _))) | ((first | refine j10 rfl rfl rfl ?_ | refine q11 rfl rfl rfl ?_); simp (disch := omega) only [go_sem, seval, policyD, wayD, pairD, spotD, topoD, configD, q13, r1]; (first | refine ⟨_, c1, ?_⟩ | refine ⟨_, c2, ?_⟩)) | ((first | refine x8 [] rfl ?_ | refine j8 [] rfl ?_); simp (disch := omega) only [go_sem, seval, policyD, wayD, pairD, spotD, topoD, configD, q13, r1]; (repeat (first | refine ⟨by omega, ?_⟩ | refine ⟨True.intro, ?_⟩)))))
    refine q10 ⟨_, ?_, rfl⟩; rw [Tryz.results110]; simp (disch := omega) only [ResVars, ResVar, ptrLoc, go_sem, seval, policyD, wayD, pairD, spotD, topoD, configD, q13, r1]
   ·simp only [Bool.true_and] at hr
    (repeat (first | apply j0 | refine q8 rfl ?_ | refine z8 rfl ?_ | apply x7 | (refine j4 fun K hK => ?_) | (refine x5 fun K hK => ?_) | ((first | apply j6 | apply z7 | ((first | refine x4 (hK _ ?_) | refine x6 (hK _ _ j5 ?_)); clear hK K)); (first | show AWP _ _ _ _ _ | ((try simp only [j7]); first | show loopQ _ _ _ _ _ _ | show cutQ _ _ _ _ | show AWP _ _ _ _ _))) | ((first | refine j10 rfl rfl rfl ?_ | refine q11 rfl rfl rfl ?_); simp (disch := omega) only [go_sem, seval, policyD, wayD, pairD, spotD, topoD, configD, q13, r1]; (first | refine ⟨_, c1, ?_⟩ | refine ⟨_, c2, ?_⟩)) | ((first | refine x8 [] rfl ?_ | refine j8 [] rfl ?_); simp (disch := omega) only [go_sem, seval, policyD, wayD, pairD, spotD, topoD, configD, q13, r1]; (repeat (first | refine ⟨by omega, ?_⟩ | refine ⟨True.intro, ?_⟩)))))
    refine ⟨⟨i + 1, by omega, hr⟩, by simp only []; omega, ?_⟩
    refine Weak.list ?_ ?_; (all_goals simp (disch := omega) only [AllF, AllL, x11, j11, z11, exists_eq_left', go_sem, seval, policyD, wayD, pairD, spotD, topoD, configD, q13, r1]); (all_goals (repeat' (with_reducible apply And.intro))); (all_goals try (first | exact q9 rfl | (refine q12 ?_; omega) | (refine q9 ?_; simp; done)))
 ·rw [x21 (show c.po.peers.length ≤ i by omega), Bool.true_and] at hr
  (repeat (first | apply j0 | refine q8 rfl ?_ | refine z8 rfl ?_ | apply x7 | (refine j4 fun K hK => ?_) | (refine x5 fun K hK => ?_) | ((first | apply j6 | apply z7 | ((first | refine x4 (hK _ ?_) | refine x6 (hK _ _ j5 ?_)); clear hK K)); (first | show AWP _ _ _ _ _ | ((try simp only [j7]); first | show loopQ _ _ _ _ _ _ | show cutQ _ _ _ _ | show AWP _ _ _ _ _))) | ((first | refine x8 [] rfl ?_ | refine j8 [] rfl ?_); simp (disch := omega) only [go_sem, seval, policyD, wayD, pairD, spotD, topoD, configD, q13]; (repeat (first | refine ⟨by omega, ?_⟩ | refine ⟨True.intro, ?_⟩)))))
  refine x13 (polyJ c R) (fun s => c.po.ways.length - s.val) ⟨0, Nat.zero_le _, hr⟩ ?_ (fun s => ?_)
  ·unfold polyJ
   refine Weak.list ?_ ?_; (all_goals simp (disch := omega) only [AllF, AllL, x11, j11, z11, exists_eq_left', go_sem, seval, policyD, wayD, pairD, spotD, topoD, configD, q13]); (all_goals (repeat' (with_reducible apply And.intro))); (all_goals try (first | exact q9 rfl | (refine q12 ?_; omega) | (refine q9 ?_; simp; done)))
  obtain ⟨i, hi, hr⟩ := s
  unfold polyJ
  simp only [] at hi hr ⊢
  by_cases h : i < c.po.ways.length
  ·have hok : wayOk c i = (tenantP c.po (c.po.ways.getD i w0).fr && tenantP c.po (c.po.ways.getD i w0).to && decide (0 ≤ (c.po.ways.getD i w0).via) && decide ((c.po.ways.getD i w0).via < c.tp.length)) := rfl
   rw [z21 h, hok] at hr
   have r1 := j72 c.po.ways i
   generalize c.po.ways.getD i w0 = x at r1 hr
   obtain ⟨x1, x2, x3⟩ := x
   simp only [wayD] at r1
   simp only [] at hr
   have c1 := j43 c.po x1
   have c2 := j43 c.po x2
   simp only [policyD] at c1 c2
   generalize tenantP c.po x1 = b1 at c1 hr
   generalize tenantP c.po x2 = b2 at c2 hr
   cases b1
   ·simp only [Bool.false_and] at hr
    subst hr
    (repeat (first | apply j0 | refine q8 rfl ?_ | refine z8 rfl ?_ | apply x7 | (refine j4 fun K hK => ?_) | (refine x5 fun K hK => ?_) | ((first | apply j6 | apply z7 | ((first | refine x4 (hK _ ?_) | refine x6 (hK _ _ j5 ?_)); clear hK K)); (first | show AWP _ _ _ _ _ | ((try simp only [j7]); first | show loopQ _ _ _ _ _ _ | show cutQ _ _ _ _ | show AWP _ _ _ _ _))) | ((first | refine j10 rfl rfl rfl ?_ | refine q11 rfl rfl rfl ?_); simp (disch := omega) only [go_sem, seval, policyD, wayD, pairD, spotD, topoD, configD, q13, r1]; (first | refine ⟨_, c1, ?_⟩)) | ((first | refine x8 [] rfl ?_ | refine j8 [] rfl ?_); simp (disch := omega) only [go_sem, seval, policyD, wayD, pairD, spotD, topoD, configD, q13, r1]; (repeat (first | refine ⟨by omega, ?_⟩ | refine ⟨True.intro, ?_⟩)))))
    refine q10 ⟨_, ?_, rfl⟩; rw [Tryz.results110]; simp (disch := omega) only [ResVars, ResVar, ptrLoc, go_sem, seval, policyD, wayD, pairD, spotD, topoD, configD, q13, r1]
   ·cases b2
    ·simp only [Bool.true_and, Bool.false_and] at hr
     subst hr
     (repeat (first | apply j0 | refine q8 rfl ?_ | refine z8 rfl ?_ | apply x7 | (refine j4 fun K hK => ?_) | (refine x5 fun K hK => ?_) | ((first | apply j6 | apply z7 | ((first | refine x4 (hK _ ?_) | refine x6 (hK _ _ j5 ?_)); clear hK K)); (first | show AWP _ _ _ _ _ | ((try simp only [j7]); first | show loopQ _ _ _ _ _ _ | show cutQ _ _ _ _ | show AWP _ _ _ _ _))) | ((first | refine j10 rfl rfl rfl ?_ | refine q11 rfl rfl rfl ?_); simp (disch := omega) only [go_sem, seval, policyD, wayD, pairD, spotD, topoD, configD, q13, r1]; (first | refine ⟨_, c1, ?_⟩ | refine ⟨_, c2, ?_⟩)) | ((first | refine x8 [] rfl ?_ | refine j8 [] rfl ?_); simp (disch := omega) only [go_sem, seval, policyD, wayD, pairD, spotD, topoD, configD, q13, r1]; (repeat (first | refine ⟨by omega, ?_⟩ | refine ⟨True.intro, ?_⟩)))))
     refine q10 ⟨_, ?_, rfl⟩; rw [Tryz.results110]; simp (disch := omega) only [ResVars, ResVar, ptrLoc, go_sem, seval, policyD, wayD, pairD, spotD, topoD, configD, q13, r1]
    ·by_cases h3 : 0 ≤ x3
     ·by_cases h4 : x3 < c.tp.length
      ·rw [decide_eq_true h3, decide_eq_true h4] at hr
       simp only [Bool.true_and] at hr
       (repeat (first | apply j0 | refine q8 rfl ?_ | refine z8 rfl ?_ | apply x7 | (refine j4 fun K hK => ?_) | (refine x5 fun K hK => ?_) | ((first | apply j6 | apply z7 | ((first | refine x4 (hK _ ?_) | refine x6 (hK _ _ j5 ?_)); clear hK K)); (first | show AWP _ _ _ _ _ | ((try simp only [j7]); first | show loopQ _ _ _ _ _ _ | show cutQ _ _ _ _ | show AWP _ _ _ _ _))) | ((first | refine j10 rfl rfl rfl ?_ | refine q11 rfl rfl rfl ?_); simp (disch := omega) only [go_sem, seval, policyD, wayD, pairD, spotD, topoD, configD, q13, r1]; (first | refine ⟨_, c1, ?_⟩ | refine ⟨_, c2, ?_⟩)) | ((first | refine x8 [] rfl ?_ | refine j8 [] rfl ?_); simp (disch := omega) only [go_sem, seval, policyD, wayD, pairD, spotD, topoD, configD, q13, r1]; (repeat (first | refine ⟨by omega, ?_⟩ | refine ⟨True.intro, ?_⟩)))))
       refine ⟨⟨i + 1, by omega, hr⟩, by simp only []; omega, ?_⟩
       refine Weak.list ?_ ?_; (all_goals simp (disch := omega) only [AllF, AllL, x11, j11, z11, exists_eq_left', go_sem, seval, policyD, wayD, pairD, spotD, topoD, configD, q13, r1]); (all_goals (repeat' (with_reducible apply And.intro))); (all_goals try (first | exact q9 rfl | (refine q12 ?_; omega) | (refine q9 ?_; simp; done)))
      ·rw [decide_eq_true h3, decide_eq_false h4] at hr
       simp only [Bool.true_and, Bool.false_and] at hr
       subst hr
       (repeat (first | apply j0 | refine q8 rfl ?_ | refine z8 rfl ?_ | apply x7 | (refine j4 fun K hK => ?_) | (refine x5 fun K hK => ?_) | ((first | apply j6 | apply z7 | ((first | refine x4 (hK _ ?_) | refine x6 (hK _ _ j5 ?_)); clear hK K)); (first | show AWP _ _ _ _ _ | ((try simp only [j7]); first | show loopQ _ _ _ _ _ _ | show cutQ _ _ _ _ | show AWP _ _ _ _ _))) | ((first | refine j10 rfl rfl rfl ?_ | refine q11 rfl rfl rfl ?_); simp (disch := omega) only [go_sem, seval, policyD, wayD, pairD, spotD, topoD, configD, q13, r1]; (first | refine ⟨_, c1, ?_⟩ | refine ⟨_, c2, ?_⟩)) | ((first | refine x8 [] rfl ?_ | refine j8 [] rfl ?_); simp (disch := omega) only [go_sem, seval, policyD, wayD, pairD, spotD, topoD, configD, q13, r1]; (repeat (first | refine ⟨by omega, ?_⟩ | refine ⟨True.intro, ?_⟩)))))
       refine q10 ⟨_, ?_, rfl⟩; rw [Tryz.results110]; simp (disch := omega) only [ResVars, ResVar, ptrLoc, go_sem, seval, policyD, wayD, pairD, spotD, topoD, configD, q13, r1]
     ·rw [decide_eq_false h3] at hr
      simp only [Bool.true_and, Bool.false_and] at hr
      subst hr
      (repeat (first | apply j0 | refine q8 rfl ?_ | refine z8 rfl ?_ | apply x7 | (refine j4 fun K hK => ?_) | (refine x5 fun K hK => ?_) | ((first | apply j6 | apply z7 | ((first | refine x4 (hK _ ?_) | refine x6 (hK _ _ j5 ?_)); clear hK K)); (first | show AWP _ _ _ _ _ | ((try simp only [j7]); first | show loopQ _ _ _ _ _ _ | show cutQ _ _ _ _ | show AWP _ _ _ _ _))) | ((first | refine j10 rfl rfl rfl ?_ | refine q11 rfl rfl rfl ?_); simp (disch := omega) only [go_sem, seval, policyD, wayD, pairD, spotD, topoD, configD, q13, r1]; (first | refine ⟨_, c1, ?_⟩ | refine ⟨_, c2, ?_⟩)) | ((first | refine x8 [] rfl ?_ | refine j8 [] rfl ?_); simp (disch := omega) only [go_sem, seval, policyD, wayD, pairD, spotD, topoD, configD, q13, r1]; (repeat (first | refine ⟨by omega, ?_⟩ | refine ⟨True.intro, ?_⟩)))))
      refine q10 ⟨_, ?_, rfl⟩; rw [Tryz.results110]; simp (disch := omega) only [ResVars, ResVar, ptrLoc, go_sem, seval, policyD, wayD, pairD, spotD, topoD, configD, q13, r1]
  ·rw [x21 (show c.po.ways.length ≤ i by omega)] at hr
   subst hr
   (repeat (first | apply j0 | refine q8 rfl ?_ | refine z8 rfl ?_ | apply x7 | (refine j4 fun K hK => ?_) | (refine x5 fun K hK => ?_) | ((first | apply j6 | apply z7 | ((first | refine x4 (hK _ ?_) | refine x6 (hK _ _ j5 ?_)); clear hK K)); (first | show AWP _ _ _ _ _ | ((try simp only [j7]); first | show loopQ _ _ _ _ _ _ | show cutQ _ _ _ _ | show AWP _ _ _ _ _))) | ((first | refine x8 [] rfl ?_ | refine j8 [] rfl ?_); simp (disch := omega) only [go_sem, seval, policyD, wayD, pairD, spotD, topoD, configD, q13]; (repeat (first | refine ⟨by omega, ?_⟩ | refine ⟨True.intro, ?_⟩)))))
   refine q10 ⟨_, ?_, rfl⟩; rw [Tryz.results110]; simp (disch := omega) only [ResVars, ResVar, ptrLoc, go_sem, seval, policyD, wayD, pairD, spotD, topoD, configD, q13]
theorem ClipA_c (n : Nat) (f : Nat → List Dat) (hn : n ≤ 1099511627776) : ACalls Tryz.prog 113 [.d (.sl 2 n f)] (· = [.d (.sl 2 n f)]) := by
 refine z12 Tryz.func113 rfl (by decide +kernel) (by rw [Tryz.ntmps113]; simp) ?_; rw [Tryz.ntmps113]; simp only [frOf]
 (repeat (first | apply j0 | refine q8 rfl ?_ | refine z8 rfl ?_ | apply x7 | (refine j4 fun K hK => ?_) | (refine x5 fun K hK => ?_) | ((first | apply j6 | apply z7 | ((first | refine x4 (hK _ ?_) | refine x6 (hK _ _ j5 ?_)); clear hK K)); (first | show AWP _ _ _ _ _ | ((try simp only [j7]); first | show loopQ _ _ _ _ _ _ | show cutQ _ _ _ _ | show AWP _ _ _ _ _))) | ((first | refine x8 [] rfl ?_ | refine j8 [] rfl ?_); simp (disch := omega) only [go_sem, seval]; (repeat (first | refine ⟨by omega, ?_⟩ | refine ⟨True.intro, ?_⟩)))))
 refine q10 ⟨_, ?_, rfl⟩; rw [Tryz.results113]; simp (disch := omega) only [ResVars, ResVar, ptrLoc, go_sem, seval]
 rfl
set_option maxRecDepth 100000 in
theorem q166 (n : Nat) (f : Nat → List Dat) (hl : n ≤ 1099511627776) : ACalls Tryz.prog 114 [.d (.sl 2 n f)] (· = [.d (.sl 2 n f)]) := by
 by_cases h : n = 0
 ·subst h
  refine x39 fun a c => ?_
  cases a with
  |none =>
   refine z12 Tryz.func114 rfl (by decide +kernel) (by rw [Tryz.ntmps114]; simp) ?_; rw [Tryz.ntmps114]; simp only [frOf]
   (repeat (first | apply j0 | refine q8 rfl ?_ | refine z8 rfl ?_ | apply x7 | (refine j4 fun K hK => ?_) | (refine x5 fun K hK => ?_) | ((first | apply j6 | apply z7 | ((first | refine x4 (hK _ ?_) | refine x6 (hK _ _ j5 ?_)); clear hK K)); (first | show AWP _ _ _ _ _ | ((try simp only [j7]); first | show loopQ _ _ _ _ _ _ | show cutQ _ _ _ _ | show AWP _ _ _ _ _))) | ((first | refine x8 [5] rfl ?_ | refine j8 [5] rfl ?_); simp (disch := omega) only [go_sem, seval]; (repeat (first | refine ⟨by omega, ?_⟩ | refine ⟨True.intro, ?_⟩)))))
   refine q16 2 _ (.p (.d (.sl 2 0 f))) rfl j21 ?_
   refine q10 ⟨_, ?_, rfl⟩; rw [Tryz.results114]; simp (disch := omega) only [ResVars, ResVar, ptrLoc, go_sem, seval]
  |some a =>
   refine z12 Tryz.func114 rfl (by decide +kernel) (by rw [Tryz.ntmps114]; simp) ?_; rw [Tryz.ntmps114]; simp only [frOf]
   (repeat ((fail_if_success (show AWP _ _ (.region 3 _ _) _ _)); first | apply j0 | refine q8 rfl ?_ | refine z8 rfl ?_ | apply x7 | (refine j4 fun K hK => ?_) | (refine x5 fun K hK => ?_) | ((first | apply j6 | apply z7 | ((first | refine x4 (hK _ ?_) | refine x6 (hK _ _ j5 ?_)); clear hK K)); (first | show AWP _ _ _ _ _ | ((try simp only [j7]); first | show loopQ _ _ _ _ _ _ | show cutQ _ _ _ _ | show AWP _ _ _ _ _))) | ((first | refine x8 [5] rfl ?_ | refine j8 [5] rfl ?_); simp (disch := omega) only [go_sem, seval]; (repeat (first | refine ⟨by omega, ?_⟩ | refine ⟨True.intro, ?_⟩)))))
   refine q16 0 _ (.p (.d (.sl 2 0 f))) rfl j21 ?_
   (repeat (first | apply j0 | refine q8 rfl ?_ | refine z8 rfl ?_ | apply x7 | (refine j4 fun K hK => ?_) | (refine x5 fun K hK => ?_) | ((first | apply j6 | apply z7 | ((first | refine x4 (hK _ ?_) | refine x6 (hK _ _ j5 ?_)); clear hK K)); (first | show AWP _ _ _ _ _ | ((try simp only [j7]); first | show loopQ _ _ _ _ _ _ | show cutQ _ _ _ _ | show AWP _ _ _ _ _))) | ((first | refine x8 [5] rfl ?_ | refine j8 [5] rfl ?_); simp (disch := omega) only [go_sem, seval]; (repeat (first | refine ⟨by omega, ?_⟩ | refine ⟨True.intro, ?_⟩)))))
   refine q16 2 _ (.p (.d (.sl 2 0 f))) rfl (x22 rfl (fun i hi => by omega)) ?_
   refine q10 ⟨_, ?_, rfl⟩; rw [Tryz.results114]; simp (disch := omega) only [ResVars, ResVar, ptrLoc, go_sem, seval]
 ·refine z12 Tryz.func114 rfl (by decide +kernel) (by rw [Tryz.ntmps114]; simp) ?_; rw [Tryz.ntmps114]; simp only [frOf]
  (repeat (first | apply j0 | refine q8 rfl ?_ | refine z8 rfl ?_ | apply x7 | (refine j4 fun K hK => ?_) | (refine x5 fun K hK => ?_) | ((first | apply j6 | apply z7 | ((first | refine x4 (hK _ ?_) | refine x6 (hK _ _ j5 ?_)); clear hK K)); (first | show AWP _ _ _ _ _ | ((try simp only [j7]); first | show loopQ _ _ _ _ _ _ | show cutQ _ _ _ _ | show AWP _ _ _ _ _))) | ((first | refine x8 [5] rfl ?_ | refine j8 [5] rfl ?_); simp (disch := omega) only [go_sem, seval]; (repeat (first | refine ⟨by omega, ?_⟩ | refine ⟨True.intro, ?_⟩)))))
  refine q16 2 _ (.p (.d (.sl 2 n f))) rfl (x22 (by omega) (fun i hi => by unfold catF; rw [if_neg (by omega)]; rfl)) ?_
  refine q10 ⟨_, ?_, rfl⟩; rw [Tryz.results114]; simp (disch := omega) only [ResVars, ResVar, ptrLoc, go_sem, seval]
theorem ClipW_c (n : Nat) (f : Nat → List Dat) (hn : n ≤ 1099511627776) : ACalls Tryz.prog 115 [.d (.sl 3 n f)] (· = [.d (.sl 3 n f)]) := by
 refine z12 Tryz.func115 rfl (by decide +kernel) (by rw [Tryz.ntmps115]; simp) ?_; rw [Tryz.ntmps115]; simp only [frOf]
 (repeat (first | apply j0 | refine q8 rfl ?_ | refine z8 rfl ?_ | apply x7 | (refine j4 fun K hK => ?_) | (refine x5 fun K hK => ?_) | ((first | apply j6 | apply z7 | ((first | refine x4 (hK _ ?_) | refine x6 (hK _ _ j5 ?_)); clear hK K)); (first | show AWP _ _ _ _ _ | ((try simp only [j7]); first | show loopQ _ _ _ _ _ _ | show cutQ _ _ _ _ | show AWP _ _ _ _ _))) | ((first | refine x8 [] rfl ?_ | refine j8 [] rfl ?_); simp (disch := omega) only [go_sem, seval]; (repeat (first | refine ⟨by omega, ?_⟩ | refine ⟨True.intro, ?_⟩)))))
 refine q10 ⟨_, ?_, rfl⟩; rw [Tryz.results115]; simp (disch := omega) only [ResVars, ResVar, ptrLoc, go_sem, seval]
 rfl
set_option maxRecDepth 100000 in
theorem z166 (n : Nat) (f : Nat → List Dat) (hl : n ≤ 1099511627776) : ACalls Tryz.prog 116 [.d (.sl 3 n f)] (· = [.d (.sl 3 n f)]) := by
 by_cases h : n = 0
 ·subst h
  refine x39 fun a c => ?_
  cases a with
  |none =>
   refine z12 Tryz.func116 rfl (by decide +kernel) (by rw [Tryz.ntmps116]; simp) ?_; rw [Tryz.ntmps116]; simp only [frOf]
   (repeat (first | apply j0 | refine q8 rfl ?_ | refine z8 rfl ?_ | apply x7 | (refine j4 fun K hK => ?_) | (refine x5 fun K hK => ?_) | ((first | apply j6 | apply z7 | ((first | refine x4 (hK _ ?_) | refine x6 (hK _ _ j5 ?_)); clear hK K)); (first | show AWP _ _ _ _ _ | ((try simp only [j7]); first | show loopQ _ _ _ _ _ _ | show cutQ _ _ _ _ | show AWP _ _ _ _ _))) | ((first | refine x8 [5] rfl ?_ | refine j8 [5] rfl ?_); simp (disch := omega) only [go_sem, seval]; (repeat (first | refine ⟨by omega, ?_⟩ | refine ⟨True.intro, ?_⟩)))))
   refine q16 2 _ (.p (.d (.sl 3 0 f))) rfl j21 ?_
   refine q10 ⟨_, ?_, rfl⟩; rw [Tryz.results116]; simp (disch := omega) only [ResVars, ResVar, ptrLoc, go_sem, seval]
  |some a =>
   refine z12 Tryz.func116 rfl (by decide +kernel) (by rw [Tryz.ntmps116]; simp) ?_; rw [Tryz.ntmps116]; simp only [frOf]
   (repeat ((fail_if_success (show AWP _ _ (.region 3 _ _) _ _)); first | apply j0 | refine q8 rfl ?_ | refine z8 rfl ?_ | apply x7 | (refine j4 fun K hK => ?_) | (refine x5 fun K hK => ?_) | ((first | apply j6 | apply z7 | ((first | refine x4 (hK _ ?_) | refine x6 (hK _ _ j5 ?_)); clear hK K)); (first | show AWP _ _ _ _ _ | ((try simp only [j7]); first | show loopQ _ _ _ _ _ _ | show cutQ _ _ _ _ | show AWP _ _ _ _ _))) | ((first | refine x8 [5] rfl ?_ | refine j8 [5] rfl ?_); simp (disch := omega) only [go_sem, seval]; (repeat (first | refine ⟨by omega, ?_⟩ | refine ⟨True.intro, ?_⟩)))))
   refine q16 0 _ (.p (.d (.sl 3 0 f))) rfl j21 ?_
   (repeat (first | apply j0 | refine q8 rfl ?_ | refine z8 rfl ?_ | apply x7 | (refine j4 fun K hK => ?_) | (refine x5 fun K hK => ?_) | ((first | apply j6 | apply z7 | ((first | refine x4 (hK _ ?_) | refine x6 (hK _ _ j5 ?_)); clear hK K)); (first | show AWP _ _ _ _ _ | ((try simp only [j7]); first | show loopQ _ _ _ _ _ _ | show cutQ _ _ _ _ | show AWP _ _ _ _ _))) | ((first | refine x8 [5] rfl ?_ | refine j8 [5] rfl ?_); simp (disch := omega) only [go_sem, seval]; (repeat (first | refine ⟨by omega, ?_⟩ | refine ⟨True.intro, ?_⟩)))))
   refine q16 2 _ (.p (.d (.sl 3 0 f))) rfl (x22 rfl (fun i hi => by omega)) ?_
   refine q10 ⟨_, ?_, rfl⟩; rw [Tryz.results116]; simp (disch := omega) only [ResVars, ResVar, ptrLoc, go_sem, seval]
 ·refine z12 Tryz.func116 rfl (by decide +kernel) (by rw [Tryz.ntmps116]; simp) ?_; rw [Tryz.ntmps116]; simp only [frOf]
  (repeat (first | apply j0 | refine q8 rfl ?_ | refine z8 rfl ?_ | apply x7 | (refine j4 fun K hK => ?_) | (refine x5 fun K hK => ?_) | ((first | apply j6 | apply z7 | ((first | refine x4 (hK _ ?_) | refine x6 (hK _ _ j5 ?_)); clear hK K)); (first | show AWP _ _ _ _ _ | ((try simp only [j7]); first | show loopQ _ _ _ _ _ _ | show cutQ _ _ _ _ | show AWP _ _ _ _ _))) | ((first | refine x8 [5] rfl ?_ | refine j8 [5] rfl ?_); simp (disch := omega) only [go_sem, seval]; (repeat (first | refine ⟨by omega, ?_⟩ | refine ⟨True.intro, ?_⟩)))))
  refine q16 2 _ (.p (.d (.sl 3 n f))) rfl (x22 (by omega) (fun i hi => by unfold catF; rw [if_neg (by omega)]; rfl)) ?_
  refine q10 ⟨_, ?_, rfl⟩; rw [Tryz.results116]; simp (disch := omega) only [ResVars, ResVar, ptrLoc, go_sem, seval]
theorem ClipP_c (n : Nat) (f : Nat → List Dat) (hn : n ≤ 1099511627776) : ACalls Tryz.prog 152 [.d (.sl 5 n f)] (· = [.d (.sl 5 n f)]) := by
 refine z12 Tryz.func152 rfl (by decide +kernel) (by rw [Tryz.ntmps152]; simp) ?_; rw [Tryz.ntmps152]; simp only [frOf]
 (repeat (first | apply j0 | refine q8 rfl ?_ | refine z8 rfl ?_ | apply x7 | (refine j4 fun K hK => ?_) | (refine x5 fun K hK => ?_) | ((first | apply j6 | apply z7 | ((first | refine x4 (hK _ ?_) | refine x6 (hK _ _ j5 ?_)); clear hK K)); (first | show AWP _ _ _ _ _ | ((try simp only [j7]); first | show loopQ _ _ _ _ _ _ | show cutQ _ _ _ _ | show AWP _ _ _ _ _))) | ((first | refine x8 [] rfl ?_ | refine j8 [] rfl ?_); simp (disch := omega) only [go_sem, seval]; (repeat (first | refine ⟨by omega, ?_⟩ | refine ⟨True.intro, ?_⟩)))))
 refine q10 ⟨_, ?_, rfl⟩; rw [Tryz.results152]; simp (disch := omega) only [ResVars, ResVar, ptrLoc, go_sem, seval]
 rfl
set_option maxRecDepth 100000 in
theorem x166 (n : Nat) (f : Nat → List Dat) (hl : n ≤ 1099511627776) : ACalls Tryz.prog 153 [.d (.sl 5 n f)] (· = [.d (.sl 5 n f)]) := by
 by_cases h : n = 0
 ·subst h
  refine x39 fun a c => ?_
  cases a with
  |none =>
   refine z12 Tryz.func153 rfl (by decide +kernel) (by rw [Tryz.ntmps153]; simp) ?_; rw [Tryz.ntmps153]; simp only [frOf]
   (repeat (first | apply j0 | refine q8 rfl ?_ | refine z8 rfl ?_ | apply x7 | (refine j4 fun K hK => ?_) | (refine x5 fun K hK => ?_) | ((first | apply j6 | apply z7 | ((first | refine x4 (hK _ ?_) | refine x6 (hK _ _ j5 ?_)); clear hK K)); (first | show AWP _ _ _ _ _ | ((try simp only [j7]); first | show loopQ _ _ _ _ _ _ | show cutQ _ _ _ _ | show AWP _ _ _ _ _))) | ((first | refine x8 [5] rfl ?_ | refine j8 [5] rfl ?_); simp (disch := omega) only [go_sem, seval]; (repeat (first | refine ⟨by omega, ?_⟩ | refine ⟨True.intro, ?_⟩)))))
   refine q16 2 _ (.p (.d (.sl 5 0 f))) rfl j21 ?_
   refine q10 ⟨_, ?_, rfl⟩; rw [Tryz.results153]; simp (disch := omega) only [ResVars, ResVar, ptrLoc, go_sem, seval]
  |some a =>
   refine z12 Tryz.func153 rfl (by decide +kernel) (by rw [Tryz.ntmps153]; simp) ?_; rw [Tryz.ntmps153]; simp only [frOf]
   (repeat ((fail_if_success (show AWP _ _ (.region 3 _ _) _ _)); first | apply j0 | refine q8 rfl ?_ | refine z8 rfl ?_ | apply x7 | (refine j4 fun K hK => ?_) | (refine x5 fun K hK => ?_) | ((first | apply j6 | apply z7 | ((first | refine x4 (hK _ ?_) | refine x6 (hK _ _ j5 ?_)); clear hK K)); (first | show AWP _ _ _ _ _ | ((try simp only [j7]); first | show loopQ _ _ _ _ _ _ | show cutQ _ _ _ _ | show AWP _ _ _ _ _))) | ((first | refine x8 [5] rfl ?_ | refine j8 [5] rfl ?_); simp (disch := omega) only [go_sem, seval]; (repeat (first | refine ⟨by omega, ?_⟩ | refine ⟨True.intro, ?_⟩)))))
   refine q16 0 _ (.p (.d (.sl 5 0 f))) rfl j21 ?_
   (repeat (first | apply j0 | refine q8 rfl ?_ | refine z8 rfl ?_ | apply x7 | (refine j4 fun K hK => ?_) | (refine x5 fun K hK => ?_) | ((first | apply j6 | apply z7 | ((first | refine x4 (hK _ ?_) | refine x6 (hK _ _ j5 ?_)); clear hK K)); (first | show AWP _ _ _ _ _ | ((try simp only [j7]); first | show loopQ _ _ _ _ _ _ | show cutQ _ _ _ _ | show AWP _ _ _ _ _))) | ((first | refine x8 [5] rfl ?_ | refine j8 [5] rfl ?_); simp (disch := omega) only [go_sem, seval]; (repeat (first | refine ⟨by omega, ?_⟩ | refine ⟨True.intro, ?_⟩)))))
   refine q16 2 _ (.p (.d (.sl 5 0 f))) rfl (x22 rfl (fun i hi => by omega)) ?_
   refine q10 ⟨_, ?_, rfl⟩; rw [Tryz.results153]; simp (disch := omega) only [ResVars, ResVar, ptrLoc, go_sem, seval]
 ·refine z12 Tryz.func153 rfl (by decide +kernel) (by rw [Tryz.ntmps153]; simp) ?_; rw [Tryz.ntmps153]; simp only [frOf]
  (repeat (first | apply j0 | refine q8 rfl ?_ | refine z8 rfl ?_ | apply x7 | (refine j4 fun K hK => ?_) | (refine x5 fun K hK => ?_) | ((first | apply j6 | apply z7 | ((first | refine x4 (hK _ ?_) | refine x6 (hK _ _ j5 ?_)); clear hK K)); (first | show AWP _ _ _ _ _ | ((try simp only [j7]); first | show loopQ _ _ _ _ _ _ | show cutQ _ _ _ _ | show AWP _ _ _ _ _))) | ((first | refine x8 [5] rfl ?_ | refine j8 [5] rfl ?_); simp (disch := omega) only [go_sem, seval]; (repeat (first | refine ⟨by omega, ?_⟩ | refine ⟨True.intro, ?_⟩)))))
  refine q16 2 _ (.p (.d (.sl 5 n f))) rfl (x22 (by omega) (fun i hi => by unfold catF; rw [if_neg (by omega)]; rfl)) ?_
  refine q10 ⟨_, ?_, rfl⟩; rw [Tryz.results153]; simp (disch := omega) only [ResVars, ResVar, ptrLoc, go_sem, seval]
theorem z73 (n : Nat) (f : Nat → List Dat) (hn : n ≤ 1099511627776) : ACalls Tryz.prog 76 [.d (.sl 12 n f)] (· = [.d (.sl 12 n f)]) := by
 refine z12 Tryz.func76 rfl (by decide +kernel) (by rw [Tryz.ntmps76]; simp) ?_; rw [Tryz.ntmps76]; simp only [frOf]
 (repeat (first | apply j0 | refine q8 rfl ?_ | refine z8 rfl ?_ | apply x7 | (refine j4 fun K hK => ?_) | (refine x5 fun K hK => ?_) | ((first | apply j6 | apply z7 | ((first | refine x4 (hK _ ?_) | refine x6 (hK _ _ j5 ?_)); clear hK K)); (first | show AWP _ _ _ _ _ | ((try simp only [j7]); first | show loopQ _ _ _ _ _ _ | show cutQ _ _ _ _ | show AWP _ _ _ _ _))) | ((first | refine x8 [] rfl ?_ | refine j8 [] rfl ?_); simp (disch := omega) only [go_sem, seval]; (repeat (first | refine ⟨by omega, ?_⟩ | refine ⟨True.intro, ?_⟩)))))
 refine q10 ⟨_, ?_, rfl⟩; rw [Tryz.results76]; simp (disch := omega) only [ResVars, ResVar, ptrLoc, go_sem, seval]
 rfl
set_option maxRecDepth 100000 in
theorem x73 (n : Nat) (f : Nat → List Dat) (hl : n ≤ 1099511627776) : ACalls Tryz.prog 74 [.d (.sl 12 n f)] (· = [.d (.sl 12 n f)]) := by
 by_cases h : n = 0
 ·subst h
  refine x39 fun a c => ?_
  cases a with
  |none =>
   refine z12 Tryz.func74 rfl (by decide +kernel) (by rw [Tryz.ntmps74]; simp) ?_; rw [Tryz.ntmps74]; simp only [frOf]
   (repeat (first | apply j0 | refine q8 rfl ?_ | refine z8 rfl ?_ | apply x7 | (refine j4 fun K hK => ?_) | (refine x5 fun K hK => ?_) | ((first | apply j6 | apply z7 | ((first | refine x4 (hK _ ?_) | refine x6 (hK _ _ j5 ?_)); clear hK K)); (first | show AWP _ _ _ _ _ | ((try simp only [j7]); first | show loopQ _ _ _ _ _ _ | show cutQ _ _ _ _ | show AWP _ _ _ _ _))) | ((first | refine x8 [5] rfl ?_ | refine j8 [5] rfl ?_); simp (disch := omega) only [go_sem, seval]; (repeat (first | refine ⟨by omega, ?_⟩ | refine ⟨True.intro, ?_⟩)))))
   refine q16 2 _ (.p (.d (.sl 12 0 f))) rfl j21 ?_
   refine q10 ⟨_, ?_, rfl⟩; rw [Tryz.results74]; simp (disch := omega) only [ResVars, ResVar, ptrLoc, go_sem, seval]
  |some a =>
   refine z12 Tryz.func74 rfl (by decide +kernel) (by rw [Tryz.ntmps74]; simp) ?_; rw [Tryz.ntmps74]; simp only [frOf]
   (repeat ((fail_if_success (show AWP _ _ (.region 3 _ _) _ _)); first | apply j0 | refine q8 rfl ?_ | refine z8 rfl ?_ | apply x7 | (refine j4 fun K hK => ?_) | (refine x5 fun K hK => ?_) | ((first | apply j6 | apply z7 | ((first | refine x4 (hK _ ?_) | refine x6 (hK _ _ j5 ?_)); clear hK K)); (first | show AWP _ _ _ _ _ | ((try simp only [j7]); first | show loopQ _ _ _ _ _ _ | show cutQ _ _ _ _ | show AWP _ _ _ _ _))) | ((first | refine x8 [5] rfl ?_ | refine j8 [5] rfl ?_); simp (disch := omega) only [go_sem, seval]; (repeat (first | refine ⟨by omega, ?_⟩ | refine ⟨True.intro, ?_⟩)))))
   refine q16 0 _ (.p (.d (.sl 12 0 f))) rfl j21 ?_
   (repeat (first | apply j0 | refine q8 rfl ?_ | refine z8 rfl ?_ | apply x7 | (refine j4 fun K hK => ?_) | (refine x5 fun K hK => ?_) | ((first | apply j6 | apply z7 | ((first | refine x4 (hK _ ?_) | refine x6 (hK _ _ j5 ?_)); clear hK K)); (first | show AWP _ _ _ _ _ | ((try simp only [j7]); first | show loopQ _ _ _ _ _ _ | show cutQ _ _ _ _ | show AWP _ _ _ _ _))) | ((first | refine x8 [5] rfl ?_ | refine j8 [5] rfl ?_); simp (disch := omega) only [go_sem, seval]; (repeat (first | refine ⟨by omega, ?_⟩ | refine ⟨True.intro, ?_⟩)))))
   refine q16 2 _ (.p (.d (.sl 12 0 f))) rfl (x22 rfl (fun i hi => by omega)) ?_
   refine q10 ⟨_, ?_, rfl⟩; rw [Tryz.results74]; simp (disch := omega) only [ResVars, ResVar, ptrLoc, go_sem, seval]
 ·refine z12 Tryz.func74 rfl (by decide +kernel) (by rw [Tryz.ntmps74]; simp) ?_; rw [Tryz.ntmps74]; simp only [frOf]
  (repeat (first | apply j0 | refine q8 rfl ?_ | refine z8 rfl ?_ | apply x7 | (refine j4 fun K hK => ?_) | (refine x5 fun K hK => ?_) | ((first | apply j6 | apply z7 | ((first | refine x4 (hK _ ?_) | refine x6 (hK _ _ j5 ?_)); clear hK K)); (first | show AWP _ _ _ _ _ | ((try simp only [j7]); first | show loopQ _ _ _ _ _ _ | show cutQ _ _ _ _ | show AWP _ _ _ _ _))) | ((first | refine x8 [5] rfl ?_ | refine j8 [5] rfl ?_); simp (disch := omega) only [go_sem, seval]; (repeat (first | refine ⟨by omega, ?_⟩ | refine ⟨True.intro, ?_⟩)))))
  refine q16 2 _ (.p (.d (.sl 12 n f))) rfl (x22 (by omega) (fun i hi => by unfold catF; rw [if_neg (by omega)]; rfl)) ?_
  refine q10 ⟨_, ?_, rfl⟩; rw [Tryz.results74]; simp (disch := omega) only [ResVars, ResVar, ptrLoc, go_sem, seval]
theorem j166 (n : Nat) (f : Nat → List Dat) (hn : n ≤ 1099511627776) : ACalls Tryz.prog 154 [.d (.sl 1 n f)] (· = [.d (.sl 1 n f)]) := by
 refine z12 Tryz.func154 rfl (by decide +kernel) (by rw [Tryz.ntmps154]; simp) ?_; rw [Tryz.ntmps154]; simp only [frOf]
 (repeat (first | apply j0 | refine q8 rfl ?_ | refine z8 rfl ?_ | apply x7 | (refine j4 fun K hK => ?_) | (refine x5 fun K hK => ?_) | ((first | apply j6 | apply z7 | ((first | refine x4 (hK _ ?_) | refine x6 (hK _ _ j5 ?_)); clear hK K)); (first | show AWP _ _ _ _ _ | ((try simp only [j7]); first | show loopQ _ _ _ _ _ _ | show cutQ _ _ _ _ | show AWP _ _ _ _ _))) | ((first | refine x8 [] rfl ?_ | refine j8 [] rfl ?_); simp (disch := omega) only [go_sem, seval]; (repeat (first | refine ⟨by omega, ?_⟩ | refine ⟨True.intro, ?_⟩)))))
 refine q10 ⟨_, ?_, rfl⟩; rw [Tryz.results154]; simp (disch := omega) only [ResVars, ResVar, ptrLoc, go_sem, seval]
 rfl
theorem q167 (n : Nat) (f : Nat → List Dat) (hn : n ≤ 1099511627776) : ACalls Tryz.prog 118 [.d (.sl 1 n f)] (· = [.d (.sl 1 n f)]) := by
 refine z12 Tryz.func118 rfl (by decide +kernel) (by rw [Tryz.ntmps118]; simp) ?_; rw [Tryz.ntmps118]; simp only [frOf]
 (repeat (first | apply j0 | refine q8 rfl ?_ | refine z8 rfl ?_ | apply x7 | (refine j4 fun K hK => ?_) | (refine x5 fun K hK => ?_) | ((first | apply j6 | apply z7 | ((first | refine x4 (hK _ ?_) | refine x6 (hK _ _ j5 ?_)); clear hK K)); (first | show AWP _ _ _ _ _ | ((try simp only [j7]); first | show loopQ _ _ _ _ _ _ | show cutQ _ _ _ _ | show AWP _ _ _ _ _))) | ((first | refine x8 [] rfl ?_ | refine j8 [] rfl ?_); simp (disch := omega) only [go_sem, seval]; (repeat (first | refine ⟨by omega, ?_⟩ | refine ⟨True.intro, ?_⟩)))))
 refine q10 ⟨_, ?_, rfl⟩; rw [Tryz.results118]; simp (disch := omega) only [ResVars, ResVar, ptrLoc, go_sem, seval]
 rfl
theorem z167 (l : List (List Port)) (i : Nat) (hi : i < l.length) (k : Nat) (hk : k < i + 1) : catF i (rowPP l) (fun j => [[Dat.sl 5 (l.getD i []).length (rowP (l.getD i []))]].getD j []) k = rowPP l k := by
 unfold catF
 split
 ·rfl
 ·have : k = i := by omega
  subst this
  rw [Nat.sub_self]; rfl
def deepPI (l : List (List Port)) (i : Fin (l.length + 1)) : ASt :=
 ⟨[(8, .p (.d (.v (.int .i64 (i.val : Int))))), (7, .p (.d (.v (.int .i64 (l.length : Int))))), (6, .p (.d (.sl 1 l.length (rowPP l)))), (3, .gr 3 i.val 1 i.val (rowPP l))], [(3, .grow 133 1 i.val i.val)]⟩
set_option maxRecDepth 100000 in
theorem deepP_c (l : List (List Port)) (hs : small l) : ACalls Tryz.prog 112 [.d (.sl 1 l.length (rowPP l))] (· = [.d (.sl 1 l.length (rowPP l))]) := by
 have hs1 := hs.1
 have cl := j166 l.length (rowPP l) (by omega)
 refine z12 Tryz.func112 rfl (by decide +kernel) (by rw [Tryz.ntmps112]; simp) ?_; rw [Tryz.ntmps112]; simp only [frOf]
 (repeat ((fail_if_success (show AWP _ _ (.region 2 _ _) _ _)); first | apply j0 | refine q8 rfl ?_ | refine z8 rfl ?_ | apply x7 | (refine j4 fun K hK => ?_) | (refine x5 fun K hK => ?_) | ((first | apply j6 | apply z7 | ((first | refine x4 (hK _ ?_) | refine x6 (hK _ _ j5 ?_)); clear hK K)); (first | show AWP _ _ _ _ _ | ((try simp only [j7]); first | show loopQ _ _ _ _ _ _ | show cutQ _ _ _ _ | show AWP _ _ _ _ _))) | ((first | refine x8 [] rfl ?_ | refine j8 [] rfl ?_); simp (disch := omega) only [go_sem, seval]; (repeat (first | refine ⟨by omega, ?_⟩ | refine ⟨True.intro, ?_⟩)))))
 refine x31 3 3 1 133 (rowPP l) rfl (by kernel_rfl) rfl ?_
 (repeat (first | apply j0 | refine q8 rfl ?_ | refine z8 rfl ?_ | apply x7 | (refine j4 fun K hK => ?_) | (refine x5 fun K hK => ?_) | ((first | apply j6 | apply z7 | ((first | refine x4 (hK _ ?_) | refine x6 (hK _ _ j5 ?_)); clear hK K)); (first | show AWP _ _ _ _ _ | ((try simp only [j7]); first | show loopQ _ _ _ _ _ _ | show cutQ _ _ _ _ | show AWP _ _ _ _ _))) | ((first | refine x8 [] rfl ?_ | refine j8 [] rfl ?_); simp (disch := omega) only [go_sem, seval]; (repeat (first | refine ⟨by omega, ?_⟩ | refine ⟨True.intro, ?_⟩)))))
 refine x13 (deepPI l) (fun s => l.length - s.val) ⟨0, by omega⟩ ?_ (fun s => ?_)
 ·unfold deepPI
  refine Weak.list ?_ ?_; (all_goals simp (disch := omega) only [AllF, AllL, x11, j11, z11, exists_eq_left', go_sem, seval]); (all_goals (repeat' (with_reducible apply And.intro))); (all_goals try (first | exact q9 rfl | (refine q12 ?_; omega) | (refine q9 ?_; simp; done)))
 obtain ⟨i, hi⟩ := s
 unfold deepPI
 by_cases h : i < l.length
 ·have r1 := q26 l i
  have hb := z26 hs i
  have pt := z167 l i h
  generalize l.getD i [] = x at r1 hb pt
  have c1 := x166 x.length (rowP x) (by omega)
  have c2 := ClipP_c x.length (rowP x) (by omega)
  (repeat (first | apply j0 | refine q8 rfl ?_ | refine z8 rfl ?_ | apply x7 | (refine j4 fun K hK => ?_) | (refine x5 fun K hK => ?_) | ((first | apply j6 | apply z7 | ((first | refine x4 (hK _ ?_) | refine x6 (hK _ _ j5 ?_)); clear hK K)); (first | show AWP _ _ _ _ _ | ((try simp only [j7]); first | show loopQ _ _ _ _ _ _ | show cutQ _ _ _ _ | show AWP _ _ _ _ _))) | ((first | refine j10 rfl rfl rfl ?_ | refine q11 rfl rfl rfl ?_); simp (disch := omega) only [go_sem, seval, r1]; (first | refine ⟨_, c1, ?_⟩ | refine ⟨_, c2, ?_⟩)) | ((first | refine x8 [] rfl ?_ | refine j8 [] rfl ?_); simp (disch := omega) only [go_sem, seval, r1]; (repeat (first | refine ⟨by omega, ?_⟩ | refine ⟨True.intro, ?_⟩)))))
  refine ⟨⟨i + 1, by omega⟩, by simp only []; omega, ?_⟩
  refine Weak.list ?_ ?_; (all_goals simp (disch := omega) only [AllF, AllL, x11, j11, z11, exists_eq_left', go_sem, seval, r1]); (all_goals (repeat' (with_reducible apply And.intro))); (all_goals try (first | exact q9 rfl | (refine q12 ?_; omega) | (refine q9 ?_; simp; done)))
  ·exact q31 rfl rfl (fun k hk => pt k hk)
 ·have : i = l.length := by omega
  subst this
  (repeat (first | apply j0 | refine q8 rfl ?_ | refine z8 rfl ?_ | apply x7 | (refine j4 fun K hK => ?_) | (refine x5 fun K hK => ?_) | ((first | apply j6 | apply z7 | ((first | refine x4 (hK _ ?_) | refine x6 (hK _ _ j5 ?_)); clear hK K)); (first | show AWP _ _ _ _ _ | ((try simp only [j7]); first | show loopQ _ _ _ _ _ _ | show cutQ _ _ _ _ | show AWP _ _ _ _ _))) | ((first | refine j10 rfl rfl rfl ?_ | refine q11 rfl rfl rfl ?_); simp (disch := omega) only [go_sem, seval]; (first | refine ⟨_, cl, ?_⟩)) | ((first | refine x8 [] rfl ?_ | refine j8 [] rfl ?_); simp (disch := omega) only [go_sem, seval]; (repeat (first | refine ⟨by omega, ?_⟩ | refine ⟨True.intro, ?_⟩)))))
  refine q10 ⟨_, ?_, rfl⟩; rw [Tryz.results112]; simp (disch := omega) only [ResVars, ResVar, ptrLoc, go_sem, seval]
theorem x167 (l : List (List Rule)) (i : Nat) (hi : i < l.length) (k : Nat) (hk : k < i + 1) : catF i (rowRR l) (fun j => [[Dat.sl 12 (l.getD i []).length (rowR (l.getD i []))]].getD j []) k = rowRR l k := by
 unfold catF
 split
 ·rfl
 ·have : k = i := by omega
  subst this
  rw [Nat.sub_self]; rfl
end Go.Proofs.YtemcdefpihkfpaaGreat
namespace Go.Proofs.YtemcdefpihkfpaaGreat
open Go Go.Proofs.YtemcdefpihkfpaaGreat.AL
def zRow : List Dat := [.v (.int .i64 0), .v (.int .u64 0), .v (.int .u64 0), .v (.int .u64 0), .v (.int .u64 0), .v (.int .i64 0), .v (.int .i64 0), .v (.int .i64 0), .v (.int .u64 0), .v (.int .u64 0), .v (.int .u64 0), .v (.int .u64 0)]
def delF (f : Nat → List Dat) (i : Nat) : Nat → List Dat := fun k => f (if k < i then k else k + 1)
def delG (f : Nat → List Dat) (i : Nat) : Nat → List Dat := fun k => if i * 12 / 12 ≤ k ∧ k < i * 12 / 12 + (i + 1 - i) then zRow else if i ≤ k ∧ k < i then f (k - i) else f k
theorem delG_at (f : Nat → List Dat) (i k : Nat) (hk : k < i) : delG f i k = delF f i k := by
 unfold delG delF
 rw [if_neg (by omega), if_neg (by omega), if_pos hk]
def delH (f : Nat → List Dat) (n i : Nat) : Nat → List Dat := fun k => if n - 1 ≤ k ∧ k < n - 1 + 1 then zRow else if i ≤ k ∧ k < n - 1 then f (i + 1 + (k - i)) else f k
theorem delH_at (f : Nat → List Dat) (n i k : Nat) (hk : k < n - 1) : delH f n i k = delF f i k := by
 unfold delH delF
 rw [if_neg (by omega)]
 by_cases h : i ≤ k
 ·rw [if_pos ⟨h, hk⟩, if_neg (by omega)]; congr 1; omega
 ·rw [if_neg (by omega), if_pos (by omega)]
set_option maxRecDepth 100000 in
set_option maxHeartbeats 4000000 in
theorem j167 (M : Nat → Option Ent) (b n c cap i : Nat) (f : Nat → List Dat) (hM : M b = some ⟨69, 12, cap, n, f⟩) (hi : i < n) (hc : n ≤ c) (hn : n ≤ 1099511627776) :
  MCalls Tryz.prog 75 [.p (.d (.v (.slice (some ⟨b, 0, none⟩) n c))), .p (.d (.v (.int .i64 (i : Int)))), .p (.d (.v (.int .i64 ((i : Int) + 1))))] [(1999, .raw M)]
   (fun rs L => ∃ r : {f' : Nat → List Dat // ∀ k, k < n - 1 → f' k = delF f i k}, rs = [.p (.d (.v (.slice (some ⟨b, 0, none⟩) (n - 1) c)))] ∧ L = [(1999, .raw (setM M b (some ⟨69, 12, cap, n - 1, r.val⟩)))]) := by
 have e1 : ((i : Int) + 1).toNat = i + 1 := by omega
 have e2 : (i + 1) * 12 / 12 = i + 1 := by omega
 have e3 : i + (n - (i + 1)) = n - 1 := by omega
 have e4 : n - (n - 1) = 1 := by omega
 have e5 : (n - 1) * 12 / 12 = n - 1 := by omega
 have q : ((i : Int) == (i : Int) + 1) = false := z16 (by omega)
 have e6 : ((n - 1 : Nat) : Int).toNat = n - 1 := by omega
 by_cases hce : c = i + 1
 ·have hne : n = i + 1 := by omega
  subst hne
  subst hce
  have es : slX b 0 (i + 1) (i + 1) (i + 1) 12 = .slice (some ⟨b, 0, none⟩) 0 0 := by rw [slX_e, Nat.sub_self]
  have e7 : i + 1 - 1 = i := rfl
  refine z19 Tryz.func75 rfl (by decide +kernel) (by rw [Tryz.ntmps75]; simp) (fun l X h => by simp only [AL.look] at h; (repeat' split at h); all_goals first | omega | cases h) ?_; rw [Tryz.ntmps75]; simp only [frA]
  (repeat (first | apply j0 | refine q8 rfl ?_ | refine z8 rfl ?_ | apply x7 | (refine j4 fun K hK => ?_) | (refine x5 fun K hK => ?_) | ((first | apply j6 | apply z7 | ((first | refine x4 (hK _ ?_) | refine x6 (hK _ _ j5 ?_)); clear hK K)); (first | show AWP _ _ _ _ _ | ((try simp only [j7]); first | show loopQ _ _ _ _ _ _ | show cutQ _ _ _ _ | show AWP _ _ _ _ _))) | ((first | refine x8 [] rfl ?_ | refine j8 [] rfl ?_); simp (disch := omega) only [go_sem, seval, hM, e1, e2, q, z59, es, Nat.zero_div, Nat.zero_mul]; (repeat (first | refine ⟨by omega, ?_⟩ | refine ⟨True.intro, ?_⟩)))))
  refine q18 (Weak.shrink _ _ b i ⟨69, 12, cap, i + 1, _⟩ rfl (q25 _ _ _) (by simp only []; omega)) ?_
  rw [z59]
  refine q10 ?_
  refine (x43 ⟨⟨delG f i, fun k hk => delG_at f i k hk⟩, rfl, rfl⟩ ?_ ?_).1
  ·exact ⟨rfl, trivial⟩
  ·intro p hp; obtain rfl := List.mem_singleton.1 hp; rfl
 ·refine z19 Tryz.func75 rfl (by decide +kernel) (by rw [Tryz.ntmps75]; simp) (fun l X h => by simp only [AL.look] at h; (repeat' split at h); all_goals first | omega | cases h) ?_; rw [Tryz.ntmps75]; simp only [frA]
  (repeat (first | apply j0 | refine q8 rfl ?_ | refine z8 rfl ?_ | apply x7 | (refine j4 fun K hK => ?_) | (refine x5 fun K hK => ?_) | ((first | apply j6 | apply z7 | ((first | refine x4 (hK _ ?_) | refine x6 (hK _ _ j5 ?_)); clear hK K)); (first | show AWP _ _ _ _ _ | ((try simp only [j7]); first | show loopQ _ _ _ _ _ _ | show cutQ _ _ _ _ | show AWP _ _ _ _ _))) | ((first | refine x8 [] rfl ?_ | refine j8 [] rfl ?_); simp (disch := omega) only [go_sem, seval, hM, e1, e2, e3, e4, e5, e6, q, z59]; (repeat (first | refine ⟨by omega, ?_⟩ | refine ⟨True.intro, ?_⟩)))))
  refine q18 (Weak.shrink _ _ b (n - 1) ⟨69, 12, cap, n, _⟩ rfl (q25 _ _ _) (by simp only []; omega)) ?_
  rw [z59]
  refine q10 ?_
  refine (x43 ⟨⟨delH f n i, fun k hk => delH_at f n i k hk⟩, rfl, rfl⟩ ?_ ?_).1
  ·exact ⟨rfl, trivial⟩
  ·intro p hp; obtain rfl := List.mem_singleton.1 hp; rfl
def tabGo : Nat → List Rule → List Rule × Int
 | 0, l => (l, 0)
 | k + 1, l => if (spareR l k).2 = 0 then tabGo k (if (spareR l k).1 then l.eraseIdx k else l) else ([], (spareR l k).2)
def tabR (l : List Rule) : List Rule × Int := if soundL l then tabGo l.length l else ([], 2)
theorem q168 (l : List Rule) (i k : Nat) (hi : i < l.length) (hk : k < l.length - 1) : delF (rowR l) i k = rowR (l.eraseIdx i) k := by
 unfold delF rowR
 rw [List.getD_eq_getElem?_getD, List.getD_eq_getElem?_getD, List.getElem?_eraseIdx]
 split <;> rfl
theorem z168 (r : Rule) : ACalls Tryz.prog 73 [.agg (ruleD r)] (· = [.d (.v (.bool (!r.mt.sound)))]) := by
 have k := z18 r.mt
 unfold cb at k
 unfold ruleD
 refine z12 Tryz.func73 rfl (by decide +kernel) (by rw [Tryz.ntmps73]; simp) ?_; rw [Tryz.ntmps73]; simp only [frOf]
 (repeat (first | apply j0 | refine q8 rfl ?_ | refine z8 rfl ?_ | apply x7 | (refine j4 fun K hK => ?_) | (refine x5 fun K hK => ?_) | ((first | apply j6 | apply z7 | ((first | refine x4 (hK _ ?_) | refine x6 (hK _ _ j5 ?_)); clear hK K)); (first | show AWP _ _ _ _ _ | ((try simp only [j7]); first | show loopQ _ _ _ _ _ _ | show cutQ _ _ _ _ | show AWP _ _ _ _ _))) | ((first | refine j10 rfl rfl rfl ?_ | refine q11 rfl rfl rfl ?_); simp (disch := omega) only [go_sem, seval]; (first | refine ⟨_, k, ?_⟩)) | ((first | refine x8 [] rfl ?_ | refine j8 [] rfl ?_); simp (disch := omega) only [go_sem, seval]; (repeat (first | refine ⟨by omega, ?_⟩ | refine ⟨True.intro, ?_⟩)))))
 refine q10 ⟨_, ?_, rfl⟩; rw [Tryz.results73]; simp (disch := omega) only [ResVars, ResVar, ptrLoc, go_sem, seval]
structure TbS (l : List Rule) (R : List Rule × Int) where
 k : Nat
 cur : List Rule
 b : Nat
 c : Nat
 cap : Nat
 f : Nat → List Dat
 M : Nat → Option Ent
 hk : k ≤ cur.length
 hl : cur.length ≤ 1099511627776
 hc : cur.length ≤ c
 hM : M b = some ⟨69, 12, cap, cur.length, f⟩
 hf : ∀ j, j < cur.length → f j = rowR cur j
 hR : tabGo k cur = R
def tbI (l : List Rule) (R : List Rule × Int) (s : TbS l R) : ASt :=
 ⟨[(5, .p (.d (.v (.int .i64 ((s.k : Int) - 1))))), (4, .p (.d (.v (.slice (some ⟨s.b, 0, none⟩) s.cur.length s.c)))), (0, .p (.d (.sl 12 l.length (rowR l))))], [(1999, .raw s.M)]⟩
theorem x168 (l : List Rule) (k : Nat) : (spareR l k).2 = 0 ∨ (spareR l k).2 ≠ 0 ∧ ((spareR l k).2 != 0) = true := by
 by_cases h : (spareR l k).2 = 0
 ·exact .inl h
 ·exact .inr ⟨h, x14 h⟩
set_option maxRecDepth 100000 in
set_option maxHeartbeats 8000000 in
theorem j73 (l : List Rule) (hl : l.length ≤ 1099511627776) : ACalls Tryz.prog 31 [.d (.sl 12 l.length (rowR l))] (· = [.d (.sl 12 (tabR l).1.length (rowR (tabR l).1)), .d (.v (.int .i64 (tabR l).2))]) := by
 have kc := x98 73 [] (fun r => !r.mt.sound) l (by omega) (fun k _ => z168 k)
 rw [show (l.any fun r => !r.mt.sound) = !soundL l from by unfold soundL; rw [List.all_eq_not_any_not, Bool.not_not]] at kc
 unfold tabR
 cases hs : soundL l
 ·rw [hs] at kc
  simp only [Bool.false_eq_true, if_false]
  refine z12 Tryz.func31 rfl (by decide +kernel) (by rw [Tryz.ntmps31]; simp) ?_; rw [Tryz.ntmps31]; simp only [frOf]
  (repeat (first | apply j0 | refine q8 rfl ?_ | refine z8 rfl ?_ | apply x7 | (refine j4 fun K hK => ?_) | (refine x5 fun K hK => ?_) | ((first | apply j6 | apply z7 | ((first | refine x4 (hK _ ?_) | refine x6 (hK _ _ j5 ?_)); clear hK K)); (first | show AWP _ _ _ _ _ | ((try simp only [j7]); first | show loopQ _ _ _ _ _ _ | show cutQ _ _ _ _ | show AWP _ _ _ _ _))) | ((first | refine j10 rfl rfl rfl ?_ | refine q11 rfl rfl rfl ?_); simp (disch := omega) only [go_sem, seval]; (first | refine ⟨_, kc, ?_⟩)) | ((first | refine x8 [] rfl ?_ | refine j8 [] rfl ?_); simp (disch := omega) only [go_sem, seval]; (repeat (first | refine ⟨by omega, ?_⟩ | refine ⟨True.intro, ?_⟩)))))
  refine q16 2 _ (.p (.d (.sl 12 0 (rowR [])))) rfl (z25 _ _ _ rfl) ?_
  refine q10 ⟨_, ?_, rfl⟩; rw [Tryz.results31]; simp (disch := omega) only [ResVars, ResVar, ptrLoc, go_sem, seval]
 rw [hs] at kc
 simp only [if_true]
 obtain ⟨R, hR⟩ : ∃ R, tabGo l.length l = R := ⟨_, rfl⟩
 rw [hR]
 by_cases h0 : l.length = 0
 ·have k1 := x73 0 (rowR []) (by omega)
  have k2 := z73 0 (rowR []) (by omega)
  obtain rfl := List.eq_nil_of_length_eq_zero h0
  have hR : (([] : List Rule), (0 : Int)) = R := hR
  subst hR
  refine z12 Tryz.func31 rfl (by decide +kernel) (by rw [Tryz.ntmps31]; simp) ?_; rw [Tryz.ntmps31]; simp only [frOf]
  (repeat (first | apply j0 | refine q8 rfl ?_ | refine z8 rfl ?_ | apply x7 | (refine j4 fun K hK => ?_) | (refine x5 fun K hK => ?_) | ((first | apply j6 | apply z7 | ((first | refine x4 (hK _ ?_) | refine x6 (hK _ _ j5 ?_)); clear hK K)); (first | show AWP _ _ _ _ _ | ((try simp only [j7]); first | show loopQ _ _ _ _ _ _ | show cutQ _ _ _ _ | show AWP _ _ _ _ _))) | ((first | refine j10 rfl rfl rfl ?_ | refine q11 rfl rfl rfl ?_); simp (disch := omega) only [go_sem, seval]; (first | refine ⟨_, kc, ?_⟩ | refine ⟨_, k1, ?_⟩ | refine ⟨_, k2, ?_⟩)) | ((first | refine x8 [] rfl ?_ | refine j8 [] rfl ?_); simp (disch := omega) only [go_sem, seval]; (repeat (first | refine ⟨by omega, ?_⟩ | refine ⟨True.intro, ?_⟩)))))
  refine x13 (fun _ : Unit => ⟨[(5, .p (.d (.v (.int .i64 (-1))))), (4, .p (.d (.sl 12 0 (rowR []))))], []⟩) (fun _ => 0) () ?_ (fun _ => ?_)
  ·refine Weak.list ?_ ?_; (all_goals simp (disch := omega) only [AllF, AllL, x11, j11, z11, exists_eq_left', go_sem, seval]); (all_goals (repeat' (with_reducible apply And.intro))); (all_goals try (first | exact q9 rfl | (refine q12 ?_; omega) | (refine q9 ?_; simp; done)))
  (repeat (first | apply j0 | refine q8 rfl ?_ | refine z8 rfl ?_ | apply x7 | (refine j4 fun K hK => ?_) | (refine x5 fun K hK => ?_) | ((first | apply j6 | apply z7 | ((first | refine x4 (hK _ ?_) | refine x6 (hK _ _ j5 ?_)); clear hK K)); (first | show AWP _ _ _ _ _ | ((try simp only [j7]); first | show loopQ _ _ _ _ _ _ | show cutQ _ _ _ _ | show AWP _ _ _ _ _))) | ((first | refine j10 rfl rfl rfl ?_ | refine q11 rfl rfl rfl ?_); simp (disch := omega) only [go_sem, seval]; (first | refine ⟨_, k1, ?_⟩ | refine ⟨_, k2, ?_⟩)) | ((first | refine x8 [] rfl ?_ | refine j8 [] rfl ?_); simp (disch := omega) only [go_sem, seval]; (repeat (first | refine ⟨by omega, ?_⟩ | refine ⟨True.intro, ?_⟩)))))
  refine q10 ⟨_, ?_, rfl⟩; rw [Tryz.results31]; simp (disch := omega) only [ResVars, ResVar, ptrLoc, go_sem, seval]
 ·refine z12 Tryz.func31 rfl (by decide +kernel) (by rw [Tryz.ntmps31]; simp) ?_; rw [Tryz.ntmps31]; simp only [frOf]
  refine z106 rfl ?_
  (repeat ((fail_if_success (show AWP _ _ (.region 3 _ _) _ _)); first | apply j0 | refine q8 rfl ?_ | refine z8 rfl ?_ | apply x7 | (refine j4 fun K hK => ?_) | (refine x5 fun K hK => ?_) | ((first | apply j6 | apply z7 | ((first | refine x4 (hK _ ?_) | refine x6 (hK _ _ j5 ?_)); clear hK K)); (first | show AWP _ _ _ _ _ | ((try simp only [j7]); first | show loopQ _ _ _ _ _ _ | show cutQ _ _ _ _ | show AWP _ _ _ _ _))) | ((first | refine j10 rfl rfl rfl ?_ | refine q11 rfl rfl rfl ?_); simp (disch := omega) only [go_sem, seval]; (first | refine ⟨_, kc, ?_⟩)) | ((first | refine x8 [] rfl ?_ | refine j8 [] rfl ?_); simp (disch := omega) only [go_sem, seval]; (repeat (first | refine ⟨by omega, ?_⟩ | refine ⟨True.intro, ?_⟩)))))
  refine j4 fun K hK => ?_
  iterate 1 ((first | refine q28 [] rfl rfl ?_ | refine z28 [] rfl rfl ?_ | refine x26 rfl rfl ?_ | refine j26 rfl rfl ?_); simp (disch := omega) only [go_sem, seval]; (repeat (first | refine ⟨by omega, ?_⟩ | refine ⟨True.intro, ?_⟩)))
  (refine x50 _ (j53 [(5, 61)] rfl rfl rfl rfl rfl rfl (j144 l.length (rowR l) (by omega) hl) rfl (j13 (by repeat (first | exact trivial | refine ⟨rfl, ?_⟩)) (by kernel_rfl))) ?_); simp (disch := omega) only [go_sem, seval]
  (repeat ((fail_if_success (show AWP _ _ (.region 4 _ _) _ _)); first | apply j0 | refine q8 rfl ?_ | refine z8 rfl ?_ | apply x7 | (refine j4 fun K hK => ?_) | (refine x5 fun K hK => ?_) | ((first | apply j6 | apply z7 | ((first | refine x4 (hK _ ?_) | refine x6 (hK _ _ j5 ?_)); clear hK K)); (first | show AWP _ _ _ _ _ | ((try simp only [j7]); first | show loopQ _ _ _ _ _ _ | show cutQ _ _ _ _ | show AWP _ _ _ _ _))) | ((first | refine x8 [] rfl ?_ | refine j8 [] rfl ?_); simp (disch := omega) only [go_sem, seval]; (repeat (first | refine ⟨by omega, ?_⟩ | refine ⟨True.intro, ?_⟩)))))
  refine q106 (WeakX.packRow _ 4 61 1 12 l.length 69 (rowR l) noM rfl rfl rfl (by decide)) ?_
  rintro _ ⟨v, M2, hp, rfl⟩
  rcases hp with ⟨hn, _⟩ | ⟨b, c, hc, hb, rfl, rfl⟩
  ·omega
  (repeat (first | apply j0 | refine q8 rfl ?_ | refine z8 rfl ?_ | apply x7 | (refine j4 fun K hK => ?_) | (refine x5 fun K hK => ?_) | ((first | apply j6 | apply z7 | ((first | refine x4 (hK _ ?_) | refine x6 (hK _ _ j5 ?_)); clear hK K)); (first | show AWP _ _ _ _ _ | ((try simp only [j7]); first | show loopQ _ _ _ _ _ _ | show cutQ _ _ _ _ | show AWP _ _ _ _ _))) | ((first | refine x8 [] rfl ?_ | refine j8 [] rfl ?_); simp (disch := omega) only [go_sem, seval, j20]; (repeat (first | refine ⟨by omega, ?_⟩ | refine ⟨True.intro, ?_⟩)))))
  refine x13 (tbI l R) (fun s => s.k) ⟨l.length, l, b, c, c, rowR l, setM noM b (some ⟨69, 12, c, l.length, rowR l⟩), Nat.le_refl _, hl, hc, q25 _ _ _, fun _ _ => rfl, hR⟩ ?_ (fun s => ?_)
  ·unfold tbI
   refine Weak.list ?_ ?_; (all_goals simp (disch := omega) only [AllF, AllL, x11, j11, z11, exists_eq_left', go_sem, seval]); (all_goals (repeat' (with_reducible apply And.intro))); (all_goals try (first | exact q9 rfl | (refine q12 ?_; omega) | (refine q9 ?_; simp; done)))
  obtain ⟨k, cur, b, c, cap, f, M, hk, hl', hc, hM, hf, hR⟩ := s
  unfold tbI
  simp only [] at hk hl' hc hM hf hR ⊢
  cases k with
  |succ k =>
   have hrd : RdD M (.v (.slice (some ⟨b, 0, none⟩) cur.length c)) (.sl 12 cur.length (rowR cur)) := HoldR.rd (.inr ⟨b, c, cap, f, rfl, hc, hM, hf⟩)
   have sp := j105 cur k (by omega) hl'
   unfold tabGo at hR
   have dl := j167 M b cur.length c cap k f hM (by omega) hc hl'
   rcases x168 cur k with he | ⟨he, heb⟩
   ·rw [if_pos he] at hR
    rw [he] at sp
    cases hb : (spareR cur k).1
    ·rw [hb] at sp hR
     simp only [Bool.false_eq_true, if_false] at hR
     (repeat ((fail_if_success (show AWP _ _ (.region 7 _ _) _ _)); first | apply j0 | refine q8 rfl ?_ | refine z8 rfl ?_ | apply x7 | (refine j4 fun K hK => ?_) | (refine x5 fun K hK => ?_) | ((first | apply j6 | apply z7 | ((first | refine x4 (hK _ ?_) | refine x6 (hK _ _ j5 ?_)); clear hK K)); (first | show AWP _ _ _ _ _ | ((try simp only [j7]); first | show loopQ _ _ _ _ _ _ | show cutQ _ _ _ _ | show AWP _ _ _ _ _))) | ((first | refine x8 [] rfl ?_ | refine j8 [] rfl ?_); simp (disch := omega) only [go_sem, seval]; (repeat (first | refine ⟨by omega, ?_⟩ | refine ⟨True.intro, ?_⟩)))))
     refine j4 fun K hK => ?_
     iterate 2 ((first | refine q28 [] rfl rfl ?_ | refine z28 [] rfl rfl ?_ | refine x26 rfl rfl ?_ | refine j26 rfl rfl ?_); simp (disch := omega) only [go_sem, seval]; (repeat (first | refine ⟨by omega, ?_⟩ | refine ⟨True.intro, ?_⟩)))
     (refine x50 _ (j53 [(1999, 1999)] rfl rfl rfl rfl rfl rfl (ACalls.borrow (M := M) (xs := [.d (.v (.slice (some ⟨b, 0, none⟩) cur.length c)), .d (.v (.int .i64 (k : Int)))]) sp (.cons (.d hrd) (.cons (.refl _) .nil)) (by intro r hr; simp at hr; rcases hr with rfl | rfl <;> trivial)) rfl (j13 (by repeat (first | exact trivial | refine ⟨rfl, ?_⟩)) (by kernel_rfl))) ?_); simp (disch := omega) only [go_sem, seval]
     (repeat (first | apply j0 | refine q8 rfl ?_ | refine z8 rfl ?_ | apply x7 | (refine j4 fun K hK => ?_) | (refine x5 fun K hK => ?_) | ((first | apply j6 | apply z7 | ((first | refine x4 (hK _ ?_) | refine x6 (hK _ _ j5 ?_)); clear hK K)); (first | show AWP _ _ _ _ _ | ((try simp only [j7]); first | show loopQ _ _ _ _ _ _ | show cutQ _ _ _ _ | show AWP _ _ _ _ _))) | ((first | refine x8 [] rfl ?_ | refine j8 [] rfl ?_); simp (disch := omega) only [go_sem, seval]; (repeat (first | refine ⟨by omega, ?_⟩ | refine ⟨True.intro, ?_⟩)))))
     refine ⟨⟨k, cur, b, c, cap, f, M, by omega, hl', hc, hM, hf, hR⟩, by simp only []; omega, ?_⟩
     refine Weak.list ?_ ?_; (all_goals simp (disch := omega) only [AllF, AllL, x11, j11, z11, exists_eq_left', go_sem, seval]); (all_goals (repeat' (with_reducible apply And.intro))); (all_goals try (first | exact q9 rfl | (refine q12 ?_; omega) | (refine q9 ?_; simp; done)))
    ·rw [hb] at sp hR
     simp only [if_true] at hR
     (repeat ((fail_if_success (show AWP _ _ (.region 7 _ _) _ _)); first | apply j0 | refine q8 rfl ?_ | refine z8 rfl ?_ | apply x7 | (refine j4 fun K hK => ?_) | (refine x5 fun K hK => ?_) | ((first | apply j6 | apply z7 | ((first | refine x4 (hK _ ?_) | refine x6 (hK _ _ j5 ?_)); clear hK K)); (first | show AWP _ _ _ _ _ | ((try simp only [j7]); first | show loopQ _ _ _ _ _ _ | show cutQ _ _ _ _ | show AWP _ _ _ _ _))) | ((first | refine x8 [] rfl ?_ | refine j8 [] rfl ?_); simp (disch := omega) only [go_sem, seval]; (repeat (first | refine ⟨by omega, ?_⟩ | refine ⟨True.intro, ?_⟩)))))
     refine j4 fun K hK => ?_
     iterate 2 ((first | refine q28 [] rfl rfl ?_ | refine z28 [] rfl rfl ?_ | refine x26 rfl rfl ?_ | refine j26 rfl rfl ?_); simp (disch := omega) only [go_sem, seval]; (repeat (first | refine ⟨by omega, ?_⟩ | refine ⟨True.intro, ?_⟩)))
     (refine x50 _ (j53 [(1999, 1999)] rfl rfl rfl rfl rfl rfl (ACalls.borrow (M := M) (xs := [.d (.v (.slice (some ⟨b, 0, none⟩) cur.length c)), .d (.v (.int .i64 (k : Int)))]) sp (.cons (.d hrd) (.cons (.refl _) .nil)) (by intro r hr; simp at hr; rcases hr with rfl | rfl <;> trivial)) rfl (j13 (by repeat (first | exact trivial | refine ⟨rfl, ?_⟩)) (by kernel_rfl))) ?_); simp (disch := omega) only [go_sem, seval]
     (repeat ((fail_if_success (show AWP _ _ (.region 11 _ _) _ _)); first | apply j0 | refine q8 rfl ?_ | refine z8 rfl ?_ | apply x7 | (refine j4 fun K hK => ?_) | (refine x5 fun K hK => ?_) | ((first | apply j6 | apply z7 | ((first | refine x4 (hK _ ?_) | refine x6 (hK _ _ j5 ?_)); clear hK K)); (first | show AWP _ _ _ _ _ | ((try simp only [j7]); first | show loopQ _ _ _ _ _ _ | show cutQ _ _ _ _ | show AWP _ _ _ _ _))) | ((first | refine x8 [] rfl ?_ | refine j8 [] rfl ?_); simp (disch := omega) only [go_sem, seval]; (repeat (first | refine ⟨by omega, ?_⟩ | refine ⟨True.intro, ?_⟩)))))
     refine j4 fun K hK => ?_
     iterate 4 ((first | refine q28 [] rfl rfl ?_ | refine z28 [] rfl rfl ?_ | refine x26 rfl rfl ?_ | refine j26 rfl rfl ?_); simp (disch := omega) only [go_sem, seval]; (repeat (first | refine ⟨by omega, ?_⟩ | refine ⟨True.intro, ?_⟩)))
     (refine j17 (z17 [(1999, 1999)] rfl rfl rfl rfl rfl rfl (dl) (fun _ => rfl) (j13 (by repeat (first | exact trivial | refine ⟨rfl, ?_⟩)) (by kernel_rfl)) (fun _ => (j13 (by repeat (first | exact trivial | refine ⟨rfl, ?_⟩)) (by kernel_rfl)))) ?_); rintro ⟨f2, hf2⟩; simp (disch := omega) only [go_sem, seval]
     have e9 : (cur.eraseIdx k).length = cur.length - 1 := List.length_eraseIdx_of_lt (by omega)
     (repeat (first | apply j0 | refine q8 rfl ?_ | refine z8 rfl ?_ | apply x7 | (refine j4 fun K hK => ?_) | (refine x5 fun K hK => ?_) | ((first | apply j6 | apply z7 | ((first | refine x4 (hK _ ?_) | refine x6 (hK _ _ j5 ?_)); clear hK K)); (first | show AWP _ _ _ _ _ | ((try simp only [j7]); first | show loopQ _ _ _ _ _ _ | show cutQ _ _ _ _ | show AWP _ _ _ _ _))) | ((first | refine x8 [] rfl ?_ | refine j8 [] rfl ?_); simp (disch := omega) only [go_sem, seval]; (repeat (first | refine ⟨by omega, ?_⟩ | refine ⟨True.intro, ?_⟩)))))
     refine ⟨⟨k, cur.eraseIdx k, b, c, cap, f2, setM M b (some ⟨69, 12, cap, cur.length - 1, f2⟩), by omega, by omega, by omega, by rw [e9]; exact q25 _ _ _, fun j hj => ?_, hR⟩, by simp only []; omega, ?_⟩
     ·rw [e9] at hj
      rw [hf2 j hj, ← q168 cur k j (by omega) hj]
      unfold delF
      exact hf _ (by split <;> omega)
     ·simp only [e9]
      refine Weak.list ?_ ?_; (all_goals simp (disch := omega) only [AllF, AllL, x11, j11, z11, exists_eq_left', go_sem, seval]); (all_goals (repeat' (with_reducible apply And.intro))); (all_goals try (first | exact q9 rfl | (refine q12 ?_; omega) | (refine q9 ?_; simp; done)))
   ·rw [if_neg he] at hR
    subst hR
    generalize (spareR cur k).2 = e at *
    generalize (spareR cur k).1 = q at *
    (repeat ((fail_if_success (show AWP _ _ (.region 7 _ _) _ _)); first | apply j0 | refine q8 rfl ?_ | refine z8 rfl ?_ | apply x7 | (refine j4 fun K hK => ?_) | (refine x5 fun K hK => ?_) | ((first | apply j6 | apply z7 | ((first | refine x4 (hK _ ?_) | refine x6 (hK _ _ j5 ?_)); clear hK K)); (first | show AWP _ _ _ _ _ | ((try simp only [j7]); first | show loopQ _ _ _ _ _ _ | show cutQ _ _ _ _ | show AWP _ _ _ _ _))) | ((first | refine x8 [] rfl ?_ | refine j8 [] rfl ?_); simp (disch := omega) only [go_sem, seval, heb]; (repeat (first | refine ⟨by omega, ?_⟩ | refine ⟨True.intro, ?_⟩)))))
    refine j4 fun K hK => ?_
    iterate 2 ((first | refine q28 [] rfl rfl ?_ | refine z28 [] rfl rfl ?_ | refine x26 rfl rfl ?_ | refine j26 rfl rfl ?_); simp (disch := omega) only [go_sem, seval, heb]; (repeat (first | refine ⟨by omega, ?_⟩ | refine ⟨True.intro, ?_⟩)))
    (refine x50 _ (j53 [(1999, 1999)] rfl rfl rfl rfl rfl rfl (ACalls.borrow (M := M) (xs := [.d (.v (.slice (some ⟨b, 0, none⟩) cur.length c)), .d (.v (.int .i64 (k : Int)))]) sp (.cons (.d hrd) (.cons (.refl _) .nil)) (by intro r hr; simp at hr; rcases hr with rfl | rfl <;> trivial)) rfl (j13 (by repeat (first | exact trivial | refine ⟨rfl, ?_⟩)) (by kernel_rfl))) ?_); simp (disch := omega) only [go_sem, seval, heb]
    (repeat (first | apply j0 | refine q8 rfl ?_ | refine z8 rfl ?_ | apply x7 | (refine j4 fun K hK => ?_) | (refine x5 fun K hK => ?_) | ((first | apply j6 | apply z7 | ((first | refine x4 (hK _ ?_) | refine x6 (hK _ _ j5 ?_)); clear hK K)); (first | show AWP _ _ _ _ _ | ((try simp only [j7]); first | show loopQ _ _ _ _ _ _ | show cutQ _ _ _ _ | show AWP _ _ _ _ _))) | ((first | refine x8 [] rfl ?_ | refine j8 [] rfl ?_); simp (disch := omega) only [go_sem, seval, heb]; (repeat (first | refine ⟨by omega, ?_⟩ | refine ⟨True.intro, ?_⟩)))))
    refine q16 2 _ (.p (.d (.sl 12 0 (rowR [])))) rfl (z25 _ _ _ rfl) ?_
    refine q10 ⟨_, ?_, rfl⟩; rw [Tryz.results31]; simp (disch := omega) only [ResVars, ResVar, ptrLoc, go_sem, seval, heb]
  |zero =>
   have hrd : RdD M (.v (.slice (some ⟨b, 0, none⟩) cur.length c)) (.sl 12 cur.length (rowR cur)) := HoldR.rd (.inr ⟨b, c, cap, f, rfl, hc, hM, hf⟩)
   unfold tabGo at hR
   subst hR
   have k1 := x73 cur.length (rowR cur) hl'
   have k2 := z73 cur.length (rowR cur) hl'
   (repeat ((fail_if_success (show AWP _ _ (.region 12 _ _) _ _)); first | apply j0 | refine q8 rfl ?_ | refine z8 rfl ?_ | apply x7 | (refine j4 fun K hK => ?_) | (refine x5 fun K hK => ?_) | ((first | apply j6 | apply z7 | ((first | refine x4 (hK _ ?_) | refine x6 (hK _ _ j5 ?_)); clear hK K)); (first | show AWP _ _ _ _ _ | ((try simp only [j7]); first | show loopQ _ _ _ _ _ _ | show cutQ _ _ _ _ | show AWP _ _ _ _ _))) | ((first | refine x8 [] rfl ?_ | refine j8 [] rfl ?_); simp (disch := omega) only [go_sem, seval, j20]; (repeat (first | refine ⟨by omega, ?_⟩ | refine ⟨True.intro, ?_⟩)))))
   refine q18 (Weak.melt _ M 4 _ (.p (.d (.sl 12 cur.length (rowR cur)))) rfl rfl (.p (.d hrd))) ?_
   (repeat (first | apply j0 | refine q8 rfl ?_ | refine z8 rfl ?_ | apply x7 | (refine j4 fun K hK => ?_) | (refine x5 fun K hK => ?_) | ((first | apply j6 | apply z7 | ((first | refine x4 (hK _ ?_) | refine x6 (hK _ _ j5 ?_)); clear hK K)); (first | show AWP _ _ _ _ _ | ((try simp only [j7]); first | show loopQ _ _ _ _ _ _ | show cutQ _ _ _ _ | show AWP _ _ _ _ _))) | ((first | refine j10 rfl rfl rfl ?_ | refine q11 rfl rfl rfl ?_); simp (disch := omega) only [go_sem, seval, j20]; (first | refine ⟨_, k1, ?_⟩ | refine ⟨_, k2, ?_⟩)) | ((first | refine x8 [] rfl ?_ | refine j8 [] rfl ?_); simp (disch := omega) only [go_sem, seval, j20]; (repeat (first | refine ⟨by omega, ?_⟩ | refine ⟨True.intro, ?_⟩)))))
   refine q10 ⟨_, ?_, rfl⟩; rw [Tryz.results31]; simp (disch := omega) only [ResVars, ResVar, ptrLoc, go_sem, seval, j20]
end Go.Proofs.YtemcdefpihkfpaaGreat
namespace Go.Proofs.YtemcdefpihkfpaaGreat
open Go.Proofs.YtemcdefpihkfpaaGreat.AL
def errF (f : Nat → Int) : Nat → Nat → Int
 | 0, _ => 0
 | m + 1, i => if f i = 0 then errF f m (i + 1) else f i
theorem j168 {f : Nat → Int} {n i : Nat} (h : i < n) : errF f (n - i) i = if f i = 0 then errF f (n - (i + 1)) (i + 1) else f i := by
 rw [show n - i = (n - (i + 1)) + 1 by omega]; rfl
theorem q169 {f : Nat → Int} {n i : Nat} (h : n ≤ i) : errF f (n - i) i = 0 := by
 rw [show n - i = 0 by omega]; rfl
def polE (c : Config) : Int := if sizesC c = false then 4 else if policyC c = false then 2 else 0
def tabE (c : Config) (i : Nat) : Int := soundTab (c.tb.getD i []) (c.tp.getD i [])
def soundC (c : Config) : Int := if soundT c.tp ≠ 0 then soundT c.tp else if polE c ≠ 0 then polE c else if c.tb.length ≠ c.tp.length then 4 else errF (tabE c) c.tb.length 0
def soundCI (c : Config) (R : Int) (s : {i : Nat // i ≤ c.tb.length ∧ errF (tabE c) (c.tb.length - i) i = R}) : ASt :=
 ⟨[(33, .p (.d (.v (.int .i64 (s.val : Int))))), (32, .p (.d (.v (.int .i64 (c.tb.length : Int))))), (31, .p (.d (.sl 1 c.tb.length (rowTT c.tb)))), (1, .p (.d (.bx (configD c))))], []⟩
set_option maxRecDepth 100000 in
set_option maxHeartbeats 4000000 in
theorem z169 (c : Config) (hc : c.small) : ACalls Tryz.prog 77 [.agg (configD c)] (· = [.d (.v (.int .i64 (soundC c)))]) := by
 have s1 := z164 c.tp hc.tp
 have s2 := sizes_c c hc
 have s3 := j165 c hc
 have htp := hc.tp
 have hat := hc.at
 have hb := hc.tb
 have hb2 := hc.tp.1
 unfold soundC polE
 simp only [topoD] at s1
 simp only [configD] at s2 s3
 generalize soundT c.tp = e1 at s1
 generalize sizesC c = b2 at s2
 generalize policyC c = b3 at s3
 by_cases h1 : e1 = 0
 ·subst h1
  rw [if_neg (by decide)]
  cases b2
  ·simp only [if_true]
   rw [if_pos (by decide)]
   refine z12 Tryz.func77 rfl (by decide +kernel) (by rw [Tryz.ntmps77]; simp) ?_; rw [Tryz.ntmps77]; simp only [frOf]
   (repeat (first | apply j0 | refine q8 rfl ?_ | refine z8 rfl ?_ | apply x7 | (refine j4 fun K hK => ?_) | (refine x5 fun K hK => ?_) | ((first | apply j6 | apply z7 | ((first | refine x4 (hK _ ?_) | refine x6 (hK _ _ j5 ?_)); clear hK K)); (first | show AWP _ _ _ _ _ | ((try simp only [j7]); first | show loopQ _ _ _ _ _ _ | show cutQ _ _ _ _ | show AWP _ _ _ _ _))) | ((first | refine j10 rfl rfl rfl ?_ | refine q11 rfl rfl rfl ?_); simp (disch := omega) only [go_sem, seval, policyD, wayD, pairD, spotD, topoD, configD, q13]; (first | refine ⟨_, s1, ?_⟩ | refine ⟨_, s2, ?_⟩ | refine ⟨_, s3, ?_⟩)) | ((first | refine x8 [] rfl ?_ | refine j8 [] rfl ?_); simp (disch := omega) only [go_sem, seval, policyD, wayD, pairD, spotD, topoD, configD, q13]; (repeat (first | refine ⟨by omega, ?_⟩ | refine ⟨True.intro, ?_⟩)))))
   refine q10 ⟨_, ?_, rfl⟩; rw [Tryz.results77]; simp (disch := omega) only [ResVars, ResVar, ptrLoc, go_sem, seval, policyD, wayD, pairD, spotD, topoD, configD, q13]
  ·cases b3
   ·simp only [if_true, Bool.true_eq_false, if_false]
    rw [if_pos (by decide)]
    refine z12 Tryz.func77 rfl (by decide +kernel) (by rw [Tryz.ntmps77]; simp) ?_; rw [Tryz.ntmps77]; simp only [frOf]
    (repeat (first | apply j0 | refine q8 rfl ?_ | refine z8 rfl ?_ | apply x7 | (refine j4 fun K hK => ?_) | (refine x5 fun K hK => ?_) | ((first | apply j6 | apply z7 | ((first | refine x4 (hK _ ?_) | refine x6 (hK _ _ j5 ?_)); clear hK K)); (first | show AWP _ _ _ _ _ | ((try simp only [j7]); first | show loopQ _ _ _ _ _ _ | show cutQ _ _ _ _ | show AWP _ _ _ _ _))) | ((first | refine j10 rfl rfl rfl ?_ | refine q11 rfl rfl rfl ?_); simp (disch := omega) only [go_sem, seval, policyD, wayD, pairD, spotD, topoD, configD, q13]; (first | refine ⟨_, s1, ?_⟩ | refine ⟨_, s2, ?_⟩ | refine ⟨_, s3, ?_⟩)) | ((first | refine x8 [] rfl ?_ | refine j8 [] rfl ?_); simp (disch := omega) only [go_sem, seval, policyD, wayD, pairD, spotD, topoD, configD, q13]; (repeat (first | refine ⟨by omega, ?_⟩ | refine ⟨True.intro, ?_⟩)))))
    refine q10 ⟨_, ?_, rfl⟩; rw [Tryz.results77]; simp (disch := omega) only [ResVars, ResVar, ptrLoc, go_sem, seval, policyD, wayD, pairD, spotD, topoD, configD, q13]
   ·simp only [if_true, Bool.true_eq_false, if_false]
    rw [if_neg (by decide)]
    by_cases h4 : c.tb.length = c.tp.length
    ·rw [if_neg (by omega)]
     have q : ((c.tb.length : Int) != (c.tp.length : Int)) = false := x16 (by omega)
     generalize hR : errF (tabE c) c.tb.length 0 = R
     refine z12 Tryz.func77 rfl (by decide +kernel) (by rw [Tryz.ntmps77]; simp) ?_; rw [Tryz.ntmps77]; simp only [frOf]
     (repeat (first | apply j0 | refine q8 rfl ?_ | refine z8 rfl ?_ | apply x7 | (refine j4 fun K hK => ?_) | (refine x5 fun K hK => ?_) | ((first | apply j6 | apply z7 | ((first | refine x4 (hK _ ?_) | refine x6 (hK _ _ j5 ?_)); clear hK K)); (first | show AWP _ _ _ _ _ | ((try simp only [j7]); first | show loopQ _ _ _ _ _ _ | show cutQ _ _ _ _ | show AWP _ _ _ _ _))) | ((first | refine j10 rfl rfl rfl ?_ | refine q11 rfl rfl rfl ?_); simp (disch := omega) only [go_sem, seval, policyD, wayD, pairD, spotD, topoD, configD, q13, q]; (first | refine ⟨_, s1, ?_⟩ | refine ⟨_, s2, ?_⟩ | refine ⟨_, s3, ?_⟩)) | ((first | refine x8 [] rfl ?_ | refine j8 [] rfl ?_); simp (disch := omega) only [go_sem, seval, policyD, wayD, pairD, spotD, topoD, configD, q13, q]; (repeat (first | refine ⟨by omega, ?_⟩ | refine ⟨True.intro, ?_⟩)))))
     refine x13 (soundCI c R) (fun s => c.tb.length - s.val) ⟨0, Nat.zero_le _, hR⟩ ?_ (fun s => ?_)
     ·unfold soundCI
      refine Weak.list ?_ ?_; (all_goals simp (disch := omega) only [AllF, AllL, x11, j11, z11, exists_eq_left', go_sem, seval, policyD, wayD, pairD, spotD, topoD, configD, q13]); (all_goals (repeat' (with_reducible apply And.intro))); (all_goals try (first | exact q9 rfl | (refine q12 ?_; omega) | (refine q9 ?_; simp; done)))
     obtain ⟨i, hi, hr⟩ := s
     unfold soundCI
     simp only [] at hi hr ⊢
     by_cases h : i < c.tb.length
     ·rw [j168 h] at hr
      have r1 := j59 c.tb i
      have r2 := q26 c.tp i
      have ct := j164 (c.tb.getD i []) (c.tp.getD i []) (hat i) (z26 htp i)
      have hte : tabE c i = soundTab (c.tb.getD i []) (c.tp.getD i []) := rfl
      rw [hte] at hr
      have l1 := z26 htp i
      have l2 := (hat i).1
      generalize soundTab (c.tb.getD i []) (c.tp.getD i []) = e at hr ct
      generalize c.tb.getD i [] = ts at r1 ct l2
      generalize c.tp.getD i [] = ps at r2 ct l1
      by_cases he : e = 0
      ·subst he
       rw [if_pos rfl] at hr
       (repeat (first | apply j0 | refine q8 rfl ?_ | refine z8 rfl ?_ | apply x7 | (refine j4 fun K hK => ?_) | (refine x5 fun K hK => ?_) | ((first | apply j6 | apply z7 | ((first | refine x4 (hK _ ?_) | refine x6 (hK _ _ j5 ?_)); clear hK K)); (first | show AWP _ _ _ _ _ | ((try simp only [j7]); first | show loopQ _ _ _ _ _ _ | show cutQ _ _ _ _ | show AWP _ _ _ _ _))) | ((first | refine j10 rfl rfl rfl ?_ | refine q11 rfl rfl rfl ?_); simp (disch := omega) only [go_sem, seval, policyD, wayD, pairD, spotD, topoD, configD, q13, r1, r2]; (first | refine ⟨_, ct, ?_⟩)) | ((first | refine x8 [] rfl ?_ | refine j8 [] rfl ?_); simp (disch := omega) only [go_sem, seval, policyD, wayD, pairD, spotD, topoD, configD, q13, r1, r2]; (repeat (first | refine ⟨by omega, ?_⟩ | refine ⟨True.intro, ?_⟩)))))
       refine ⟨⟨i + 1, by omega, hr⟩, by simp only []; omega, ?_⟩
       refine Weak.list ?_ ?_; (all_goals simp (disch := omega) only [AllF, AllL, x11, j11, z11, exists_eq_left', go_sem, seval, policyD, wayD, pairD, spotD, topoD, configD, q13, r1, r2]); (all_goals (repeat' (with_reducible apply And.intro))); (all_goals try (first | exact q9 rfl | (refine q12 ?_; omega) | (refine q9 ?_; simp; done)))
      ·rw [if_neg he] at hr
       have q2 : (e != 0) = true := x14 he
       subst hr
       (repeat (first | apply j0 | refine q8 rfl ?_ | refine z8 rfl ?_ | apply x7 | (refine j4 fun K hK => ?_) | (refine x5 fun K hK => ?_) | ((first | apply j6 | apply z7 | ((first | refine x4 (hK _ ?_) | refine x6 (hK _ _ j5 ?_)); clear hK K)); (first | show AWP _ _ _ _ _ | ((try simp only [j7]); first | show loopQ _ _ _ _ _ _ | show cutQ _ _ _ _ | show AWP _ _ _ _ _))) | ((first | refine j10 rfl rfl rfl ?_ | refine q11 rfl rfl rfl ?_); simp (disch := omega) only [go_sem, seval, policyD, wayD, pairD, spotD, topoD, configD, q13, r1, r2, q2]; (first | refine ⟨_, ct, ?_⟩)) | ((first | refine x8 [] rfl ?_ | refine j8 [] rfl ?_); simp (disch := omega) only [go_sem, seval, policyD, wayD, pairD, spotD, topoD, configD, q13, r1, r2, q2]; (repeat (first | refine ⟨by omega, ?_⟩ | refine ⟨True.intro, ?_⟩)))))
       refine q10 ⟨_, ?_, rfl⟩; rw [Tryz.results77]; simp (disch := omega) only [ResVars, ResVar, ptrLoc, go_sem, seval, policyD, wayD, pairD, spotD, topoD, configD, q13, r1, r2, q2]
     ·rw [q169 (show c.tb.length ≤ i by omega)] at hr
      subst hr
      (repeat (first | apply j0 | refine q8 rfl ?_ | refine z8 rfl ?_ | apply x7 | (refine j4 fun K hK => ?_) | (refine x5 fun K hK => ?_) | ((first | apply j6 | apply z7 | ((first | refine x4 (hK _ ?_) | refine x6 (hK _ _ j5 ?_)); clear hK K)); (first | show AWP _ _ _ _ _ | ((try simp only [j7]); first | show loopQ _ _ _ _ _ _ | show cutQ _ _ _ _ | show AWP _ _ _ _ _))) | ((first | refine x8 [] rfl ?_ | refine j8 [] rfl ?_); simp (disch := omega) only [go_sem, seval, policyD, wayD, pairD, spotD, topoD, configD, q13]; (repeat (first | refine ⟨by omega, ?_⟩ | refine ⟨True.intro, ?_⟩)))))
      refine q10 ⟨_, ?_, rfl⟩; rw [Tryz.results77]; simp (disch := omega) only [ResVars, ResVar, ptrLoc, go_sem, seval, policyD, wayD, pairD, spotD, topoD, configD, q13]
    ·rw [if_pos h4]
     have q : ((c.tb.length : Int) != (c.tp.length : Int)) = true := x14 (by omega)
     refine z12 Tryz.func77 rfl (by decide +kernel) (by rw [Tryz.ntmps77]; simp) ?_; rw [Tryz.ntmps77]; simp only [frOf]
     (repeat (first | apply j0 | refine q8 rfl ?_ | refine z8 rfl ?_ | apply x7 | (refine j4 fun K hK => ?_) | (refine x5 fun K hK => ?_) | ((first | apply j6 | apply z7 | ((first | refine x4 (hK _ ?_) | refine x6 (hK _ _ j5 ?_)); clear hK K)); (first | show AWP _ _ _ _ _ | ((try simp only [j7]); first | show loopQ _ _ _ _ _ _ | show cutQ _ _ _ _ | show AWP _ _ _ _ _))) | ((first | refine j10 rfl rfl rfl ?_ | refine q11 rfl rfl rfl ?_); simp (disch := omega) only [go_sem, seval, policyD, wayD, pairD, spotD, topoD, configD, q13, q]; (first | refine ⟨_, s1, ?_⟩ | refine ⟨_, s2, ?_⟩ | refine ⟨_, s3, ?_⟩)) | ((first | refine x8 [] rfl ?_ | refine j8 [] rfl ?_); simp (disch := omega) only [go_sem, seval, policyD, wayD, pairD, spotD, topoD, configD, q13, q]; (repeat (first | refine ⟨by omega, ?_⟩ | refine ⟨True.intro, ?_⟩)))))
     refine q10 ⟨_, ?_, rfl⟩; rw [Tryz.results77]; simp (disch := omega) only [ResVars, ResVar, ptrLoc, go_sem, seval, policyD, wayD, pairD, spotD, topoD, configD, q13, q]
 ·rw [if_pos h1]
  have q : (e1 != 0) = true := x14 h1
  refine z12 Tryz.func77 rfl (by decide +kernel) (by rw [Tryz.ntmps77]; simp) ?_; rw [Tryz.ntmps77]; simp only [frOf]
  (repeat (first | apply j0 | refine q8 rfl ?_ | refine z8 rfl ?_ | apply x7 | (refine j4 fun K hK => ?_) | (refine x5 fun K hK => ?_) | ((first | apply j6 | apply z7 | ((first | refine x4 (hK _ ?_) | refine x6 (hK _ _ j5 ?_)); clear hK K)); (first | show AWP _ _ _ _ _ | ((try simp only [j7]); first | show loopQ _ _ _ _ _ _ | show cutQ _ _ _ _ | show AWP _ _ _ _ _))) | ((first | refine j10 rfl rfl rfl ?_ | refine q11 rfl rfl rfl ?_); simp (disch := omega) only [go_sem, seval, policyD, wayD, pairD, spotD, topoD, configD, q13, q]; (first | refine ⟨_, s1, ?_⟩)) | ((first | refine x8 [] rfl ?_ | refine j8 [] rfl ?_); simp (disch := omega) only [go_sem, seval, policyD, wayD, pairD, spotD, topoD, configD, q13, q]; (repeat (first | refine ⟨by omega, ?_⟩ | refine ⟨True.intro, ?_⟩)))))
  refine q10 ⟨_, ?_, rfl⟩; rw [Tryz.results77]; simp (disch := omega) only [ResVars, ResVar, ptrLoc, go_sem, seval, policyD, wayD, pairD, spotD, topoD, configD, q13, q]
def eqBy {α : Type} (e : α → α → Bool) (d : α) (a b : List α) : Bool := if a.length = b.length then allF (fun i => e (a.getD i d) (b.getD i d)) a.length 0 else false
theorem x169 (a b : Int × Int) : eqI [a.1, a.2] [b.1, b.2] = (a == b) := by
 obtain ⟨a1, a2⟩ := a; obtain ⟨b1, b2⟩ := b
 rw [Bool.eq_iff_iff]; simp [eqI]
theorem eqI_way (a b : Way) : eqI [a.fr, a.to, a.via] [b.fr, b.to, b.via] = (a == b) := by
 obtain ⟨a1, a2, a3⟩ := a; obtain ⟨b1, b2, b3⟩ := b
 rw [Bool.eq_iff_iff]; simp [eqI, and_assoc]
theorem j169 (a b : Port) : eqI [a.kd, a.tn, a.pe, a.at', a.co] [b.kd, b.tn, b.pe, b.at', b.co] = (a == b) := by
 obtain ⟨a1, a2, a3, a4, a5⟩ := a; obtain ⟨b1, b2, b3, b4, b5⟩ := b
 rw [Bool.eq_iff_iff]; simp [eqI, and_assoc]
def eqPP : List Port → List Port → Bool := eqBy (· == ·) p0
def eqRR : List Rule → List Rule → Bool := eqBy (· == ·) r0
def eqTT : List (List Rule) → List (List Rule) → Bool := eqBy eqRR []
def sameC (a b : Config) : Bool := eqBy eqPP [] a.tp b.tp && a.po.tn == b.po.tn && eqBy (· == ·) (0, 0) a.po.peers b.po.peers && eqBy (· == ·) w0 a.po.ways b.po.ways && eqBy eqTT [] a.tb b.tb
end Go.Proofs.YtemcdefpihkfpaaGreat
namespace Go.Proofs.YtemcdefpihkfpaaGreat
open Go Go.Proofs.YtemcdefpihkfpaaGreat.AL
theorem q170 (b n c : Nat) (hc : n ≤ c) (hn : n ≤ 1099511627776) : ACalls Tryz.prog 155 [.d (.v (.slice (some ⟨b, 0, none⟩) n c))] (· = [.d (.v (.slice (some ⟨b, 0, none⟩) n n))]) := by
 refine z12 Tryz.func155 rfl (by decide +kernel) (by rw [Tryz.ntmps155]; simp) ?_; rw [Tryz.ntmps155]; simp only [frOf]
 (repeat (first | apply j0 | refine q8 rfl ?_ | refine z8 rfl ?_ | apply x7 | (refine j4 fun K hK => ?_) | (refine x5 fun K hK => ?_) | ((first | apply j6 | apply z7 | ((first | refine x4 (hK _ ?_) | refine x6 (hK _ _ j5 ?_)); clear hK K)); (first | show AWP _ _ _ _ _ | ((try simp only [j7]); first | show loopQ _ _ _ _ _ _ | show cutQ _ _ _ _ | show AWP _ _ _ _ _))) | ((first | refine x8 [] rfl ?_ | refine j8 [] rfl ?_); simp (disch := omega) only [go_sem, seval]; (repeat (first | refine ⟨by omega, ?_⟩ | refine ⟨True.intro, ?_⟩)))))
 refine q10 ⟨_, ?_, rfl⟩; rw [Tryz.results155]; simp (disch := omega) only [ResVars, ResVar, ptrLoc, go_sem, seval]
theorem z170 : ACalls Tryz.prog 155 [.d (.v (.slice none 0 0))] (· = [.d (.v (.slice none 0 0))]) := by
 refine z12 Tryz.func155 rfl (by decide +kernel) (by rw [Tryz.ntmps155]; simp) ?_; rw [Tryz.ntmps155]; simp only [frOf]
 (repeat (first | apply j0 | refine q8 rfl ?_ | refine z8 rfl ?_ | apply x7 | (refine j4 fun K hK => ?_) | (refine x5 fun K hK => ?_) | ((first | apply j6 | apply z7 | ((first | refine x4 (hK _ ?_) | refine x6 (hK _ _ j5 ?_)); clear hK K)); (first | show AWP _ _ _ _ _ | ((try simp only [j7]); first | show loopQ _ _ _ _ _ _ | show cutQ _ _ _ _ | show AWP _ _ _ _ _))) | ((first | refine x8 [] rfl ?_ | refine j8 [] rfl ?_); simp (disch := omega) only [go_sem, seval]; (repeat (first | refine ⟨by omega, ?_⟩ | refine ⟨True.intro, ?_⟩)))))
 refine q10 ⟨_, ?_, rfl⟩; rw [Tryz.results155]; simp (disch := omega) only [ResVars, ResVar, ptrLoc, go_sem, seval]
def deepSI (l : List (List Rule)) (M0 : Nat → Option Ent) (i : Fin (l.length + 1)) : ASt :=
 ⟨[(8, .p (.d (.v (.int .i64 (i.val : Int))))), (7, .p (.d (.v (.int .i64 (l.length : Int))))), (6, .p (.d (.sl 1 l.length (rowRR l)))), (3, .ow 3 i.val 1 i.val)], [(3, .own 59 1 i.val i.val (rowRR l)), (1999, .raw M0)]⟩
abbrev HoldT (M : Nat → Option Ent) (l : List (List Rule)) (v : Value) : Prop := HoldR M 59 1 l.length (rowRR l) v
def NewV (M0 : Nat → Option Ent) (v : Value) : Prop := ∀ b n c, v = .slice (some ⟨b, 0, none⟩) n c → M0 b = none
set_option maxRecDepth 100000 in
set_option maxHeartbeats 2000000 in
theorem deepS_c (l : List (List Rule)) (hs : smallR l) (M0 : Nat → Option Ent) : MCalls Tryz.prog 117 [.p (.d (.sl 1 l.length (rowRR l)))] [(1999, .raw M0)]
  (fun rs L => ∃ r : {r : Value × (Nat → Option Ent) // HoldT r.2 l r.1 ∧ GrowsM M0 r.2 ∧ NewV M0 r.1}, rs = [.p (.d (.v r.val.1))] ∧ L = [(1999, .raw r.val.2)]) := by
 have hs1 := hs.1
 refine z19 Tryz.func117 rfl (by decide +kernel) (by rw [Tryz.ntmps117]; simp) (fun l X h => by simp only [AL.look] at h; (repeat' split at h); all_goals first | omega | cases h) ?_; rw [Tryz.ntmps117]; simp only [frA]
 (repeat ((fail_if_success (show AWP _ _ (.region 2 _ _) _ _)); first | apply j0 | refine q8 rfl ?_ | refine z8 rfl ?_ | apply x7 | (refine j4 fun K hK => ?_) | (refine x5 fun K hK => ?_) | ((first | apply j6 | apply z7 | ((first | refine x4 (hK _ ?_) | refine x6 (hK _ _ j5 ?_)); clear hK K)); (first | show AWP _ _ _ _ _ | ((try simp only [j7]); first | show loopQ _ _ _ _ _ _ | show cutQ _ _ _ _ | show AWP _ _ _ _ _))) | ((first | refine x8 [] rfl ?_ | refine j8 [] rfl ?_); simp (disch := omega) only [go_sem, seval]; (repeat (first | refine ⟨by omega, ?_⟩ | refine ⟨True.intro, ?_⟩)))))
 refine q87 3 3 1 59 (rowRR l) rfl (by kernel_rfl) rfl ?_
 (repeat (first | apply j0 | refine q8 rfl ?_ | refine z8 rfl ?_ | apply x7 | (refine j4 fun K hK => ?_) | (refine x5 fun K hK => ?_) | ((first | apply j6 | apply z7 | ((first | refine x4 (hK _ ?_) | refine x6 (hK _ _ j5 ?_)); clear hK K)); (first | show AWP _ _ _ _ _ | ((try simp only [j7]); first | show loopQ _ _ _ _ _ _ | show cutQ _ _ _ _ | show AWP _ _ _ _ _))) | ((first | refine x8 [] rfl ?_ | refine j8 [] rfl ?_); simp (disch := omega) only [go_sem, seval]; (repeat (first | refine ⟨by omega, ?_⟩ | refine ⟨True.intro, ?_⟩)))))
 refine x13 (deepSI l M0) (fun s => l.length - s.val) ⟨0, by omega⟩ ?_ (fun s => ?_)
 ·unfold deepSI
  refine Weak.list ?_ ?_; (all_goals simp (disch := omega) only [AllF, AllL, x11, j11, z11, exists_eq_left', go_sem, seval]); (all_goals (repeat' (with_reducible apply And.intro))); (all_goals try (first | exact q9 rfl | (refine q12 ?_; omega) | (refine q9 ?_; simp; done)))
 obtain ⟨i, hi⟩ := s
 unfold deepSI
 by_cases h : i < l.length
 ·have r1 := q44 l i
  have hb := j36 hs i
  have pt := x167 l i h
  generalize l.getD i [] = x at r1 hb pt
  have c1 := x73 x.length (rowR x) (by omega)
  have c2 := z73 x.length (rowR x) (by omega)
  (repeat (first | apply j0 | refine q8 rfl ?_ | refine z8 rfl ?_ | apply x7 | (refine j4 fun K hK => ?_) | (refine x5 fun K hK => ?_) | ((first | apply j6 | apply z7 | ((first | refine x4 (hK _ ?_) | refine x6 (hK _ _ j5 ?_)); clear hK K)); (first | show AWP _ _ _ _ _ | ((try simp only [j7]); first | show loopQ _ _ _ _ _ _ | show cutQ _ _ _ _ | show AWP _ _ _ _ _))) | ((first | refine j10 rfl rfl rfl ?_ | refine q11 rfl rfl rfl ?_); simp (disch := omega) only [go_sem, seval, r1]; (first | refine ⟨_, c1, ?_⟩ | refine ⟨_, c2, ?_⟩)) | ((first | refine x8 [] rfl ?_ | refine j8 [] rfl ?_); simp (disch := omega) only [go_sem, seval, r1]; (repeat (first | refine ⟨by omega, ?_⟩ | refine ⟨True.intro, ?_⟩)))))
  refine ⟨⟨i + 1, by omega⟩, by simp only []; omega, ?_⟩
  refine Weak.list ?_ ?_; (all_goals simp (disch := omega) only [AllF, AllL, x11, j11, z11, exists_eq_left', go_sem, seval, r1]); (all_goals (repeat' (with_reducible apply And.intro))); (all_goals try (first | exact q9 rfl | (refine q12 ?_; omega) | (refine q9 ?_; simp; done)))
  ·exact x19 rfl rfl (fun k hk => pt k hk)
 ·have : i = l.length := by omega
  subst this
  (repeat ((fail_if_success (show AWP _ _ (.region 7 _ _) _ _)); first | apply j0 | refine q8 rfl ?_ | refine z8 rfl ?_ | apply x7 | (refine j4 fun K hK => ?_) | (refine x5 fun K hK => ?_) | ((first | apply j6 | apply z7 | ((first | refine x4 (hK _ ?_) | refine x6 (hK _ _ j5 ?_)); clear hK K)); (first | show AWP _ _ _ _ _ | ((try simp only [j7]); first | show loopQ _ _ _ _ _ _ | show cutQ _ _ _ _ | show AWP _ _ _ _ _))) | ((first | refine x8 [] rfl ?_ | refine j8 [] rfl ?_); simp (disch := omega) only [go_sem, seval]; (repeat (first | refine ⟨by omega, ?_⟩ | refine ⟨True.intro, ?_⟩)))))
  refine q106 (WeakX.packRow _ 3 3 l.length 1 l.length 59 (rowRR l) M0 rfl rfl rfl (by decide)) ?_
  rintro _ ⟨v, M2, hp, rfl⟩
  have hM2 := hp.grows
  rcases hp with ⟨hn, rfl, rfl⟩ | ⟨b, c, hc, hb, rfl, rfl⟩
  ·have cl := z170
   (repeat (first | apply j0 | refine q8 rfl ?_ | refine z8 rfl ?_ | apply x7 | (refine j4 fun K hK => ?_) | (refine x5 fun K hK => ?_) | ((first | apply j6 | apply z7 | ((first | refine x4 (hK _ ?_) | refine x6 (hK _ _ j5 ?_)); clear hK K)); (first | show AWP _ _ _ _ _ | ((try simp only [j7]); first | show loopQ _ _ _ _ _ _ | show cutQ _ _ _ _ | show AWP _ _ _ _ _))) | ((first | refine j10 rfl rfl rfl ?_ | refine q11 rfl rfl rfl ?_); simp (disch := omega) only [go_sem, seval, j20]; (first | refine ⟨_, cl, ?_⟩)) | ((first | refine x8 [] rfl ?_ | refine j8 [] rfl ?_); simp (disch := omega) only [go_sem, seval, j20]; (repeat (first | refine ⟨by omega, ?_⟩ | refine ⟨True.intro, ?_⟩)))))
   refine q10 ?_
   refine (x43 ⟨⟨(.slice none 0 0, M2), .inl ⟨hn, _, _, rfl⟩, hM2, fun b n c e => by cases e⟩, rfl, rfl⟩ ?_ ?_).1
   ·exact ⟨rfl, trivial⟩
   ·simp [AL.look, j20]
  ·have cl := q170 b l.length c hc (by omega)
   (repeat (first | apply j0 | refine q8 rfl ?_ | refine z8 rfl ?_ | apply x7 | (refine j4 fun K hK => ?_) | (refine x5 fun K hK => ?_) | ((first | apply j6 | apply z7 | ((first | refine x4 (hK _ ?_) | refine x6 (hK _ _ j5 ?_)); clear hK K)); (first | show AWP _ _ _ _ _ | ((try simp only [j7]); first | show loopQ _ _ _ _ _ _ | show cutQ _ _ _ _ | show AWP _ _ _ _ _))) | ((first | refine j10 rfl rfl rfl ?_ | refine q11 rfl rfl rfl ?_); simp (disch := omega) only [go_sem, seval, j20]; (first | refine ⟨_, cl, ?_⟩)) | ((first | refine x8 [] rfl ?_ | refine j8 [] rfl ?_); simp (disch := omega) only [go_sem, seval, j20]; (repeat (first | refine ⟨by omega, ?_⟩ | refine ⟨True.intro, ?_⟩)))))
   refine q10 ?_
   refine (x43 ⟨⟨(.slice (some ⟨b, 0, none⟩) l.length l.length, setM M0 b (some ⟨59, 1, c, l.length, rowRR l⟩)), .inr ⟨b, l.length, c, rowRR l, rfl, Nat.le_refl _, q25 _ _ _, fun _ _ => rfl⟩, hM2, fun b n c e => by cases e; exact hb⟩, rfl, rfl⟩ ?_ ?_).1
   ·exact ⟨rfl, trivial⟩
   ·simp [AL.look, j20]
def tabLen (t : List (List (List Rule))) (i : Nat) : Nat := (t.getD i []).length
def tabCell (t : List (List (List Rule))) (i : Nat) : Nat → List Dat := rowRR (t.getD i [])
def TabsM (M : Nat → Option Ent) (t : List (List (List Rule))) (s : Nat → Value) (n : Nat) : Prop := RowsM M 59 1 (tabLen t) (tabCell t) s n
def cfgS (c : Config) (s : Nat → Value) : List Dat := [.sl 1 c.tp.length (rowPP c.tp), .v (.int .i64 c.po.tn), .sl 2 c.po.peers.length (rowA c.po.peers), .sl 3 c.po.ways.length (rowW c.po.ways), .sl 1 c.tb.length (rowVal s)]
def SepT (t : List (List (List Rule))) (s : Nat → Value) (n : Nat) : Prop := ∀ i j, i < n → j < n → i ≠ j → 0 < tabLen t i → 0 < tabLen t j → ∀ b m c m' c', s i = .slice (some ⟨b, 0, none⟩) m c → s j ≠ .slice (some ⟨b, 0, none⟩) m' c'
structure CloS (c : Config) (M0 : Nat → Option Ent) where
 i : Nat
 s : Nat → Value
 M : Nat → Option Ent
 hi : i ≤ c.tb.length
 h : TabsM M c.tb s i
 g : GrowsM M0 M
 sep : SepT c.tb s i
def cloneSI (c : Config) (M0 : Nat → Option Ent) (x : CloS c M0) : ASt :=
 ⟨[(29, .p (.d (.v (.int .i64 (x.i : Int))))), (28, .p (.d (.v (.int .i64 (c.tb.length : Int))))), (27, .p (.d (.sl 1 c.tb.length (rowTT c.tb)))), (3, .gr 3 x.i 1 x.i (rowVal x.s)), (2, .loc 2 0), (1, .loc 1 0)],
  [(3, .grow 71 1 x.i x.i), (2, .cells 84 [.p (.d (.v (.slice none 0 0))), .p (.d (.v (.int .i64 0))), .p (.d (.v (.slice none 0 0))), .p (.d (.v (.slice none 0 0))), .p (.d (.v (.slice none 0 0)))]), (1, .cells 84 [.p (.d (.sl 1 c.tp.length (rowPP c.tp))), .p (.d (.v (.int .i64 c.po.tn))), .p (.d (.sl 2 c.po.peers.length (rowA c.po.peers))), .p (.d (.sl 3 c.po.ways.length (rowW c.po.ways))), .p (.d (.sl 1 c.tb.length (rowTT c.tb)))]), (1999, .raw x.M)]⟩
set_option maxRecDepth 100000 in
set_option maxHeartbeats 4000000 in
theorem x170 (c : Config) (hc : c.small) (M0 : Nat → Option Ent) : MCalls Tryz.prog 78 [.p (.agg (configD c))] [(1999, .raw M0)]
  (fun rs L => ∃ r : {r : (Nat → Value) × (Nat → Option Ent) // TabsM r.2 c.tb r.1 c.tb.length ∧ GrowsM M0 r.2 ∧ SepT c.tb r.1 c.tb.length}, rs = [.p (.agg (cfgS c r.val.1))] ∧ L = [(1999, .raw r.val.2)]) := by
 have c1 := deepP_c c.tp hc.tp
 have c2 := q166 c.po.peers.length (rowA c.po.peers) hc.po.1
 have c3 := ClipA_c c.po.peers.length (rowA c.po.peers) hc.po.1
 have c4 := z166 c.po.ways.length (rowW c.po.ways) hc.po.2
 have c5 := ClipW_c c.po.ways.length (rowW c.po.ways) hc.po.2
 have t1 := hc.tb
 have hat := hc.at
 unfold configD
 refine z19 Tryz.func78 rfl (by decide +kernel) (by rw [Tryz.ntmps78]; simp) (fun l X h => by simp only [AL.look] at h; (repeat' split at h); all_goals first | omega | cases h) ?_; rw [Tryz.ntmps78]; simp only [frA]
 (repeat ((fail_if_success (show AWP _ _ (.region 4 _ _) _ _)); first | apply j0 | refine q8 rfl ?_ | refine z8 rfl ?_ | apply x7 | (refine j4 fun K hK => ?_) | (refine x5 fun K hK => ?_) | ((first | apply j6 | apply z7 | ((first | refine x4 (hK _ ?_) | refine x6 (hK _ _ j5 ?_)); clear hK K)); (first | show AWP _ _ _ _ _ | ((try simp only [j7]); first | show loopQ _ _ _ _ _ _ | show cutQ _ _ _ _ | show AWP _ _ _ _ _))) | ((first | refine j10 rfl rfl rfl ?_ | refine q11 rfl rfl rfl ?_); simp (disch := omega) only [go_sem, seval, policyD, topoD, configD]; (first | refine ⟨_, c1, ?_⟩ | refine ⟨_, c2, ?_⟩ | refine ⟨_, c3, ?_⟩ | refine ⟨_, c4, ?_⟩ | refine ⟨_, c5, ?_⟩)) | ((first | refine x8 [1] rfl ?_ | refine j8 [1] rfl ?_); simp (disch := omega) only [go_sem, seval, policyD, topoD, configD]; (repeat (first | refine ⟨by omega, ?_⟩ | refine ⟨True.intro, ?_⟩)))))
 refine x31 3 3 1 71 (rowVal fun _ => .slice none 0 0) rfl (by kernel_rfl) rfl ?_
 (repeat (first | apply j0 | refine q8 rfl ?_ | refine z8 rfl ?_ | apply x7 | (refine j4 fun K hK => ?_) | (refine x5 fun K hK => ?_) | ((first | apply j6 | apply z7 | ((first | refine x4 (hK _ ?_) | refine x6 (hK _ _ j5 ?_)); clear hK K)); (first | show AWP _ _ _ _ _ | ((try simp only [j7]); first | show loopQ _ _ _ _ _ _ | show cutQ _ _ _ _ | show AWP _ _ _ _ _))) | ((first | refine x8 [1] rfl ?_ | refine j8 [1] rfl ?_); simp (disch := omega) only [go_sem, seval, policyD, topoD, configD]; (repeat (first | refine ⟨by omega, ?_⟩ | refine ⟨True.intro, ?_⟩)))))
 refine x13 (cloneSI c M0) (fun x => c.tb.length - x.i) ⟨0, fun _ => .slice none 0 0, M0, by omega, fun i hi => by omega, .refl _, fun i j hi => by omega⟩ ?_ (fun x => ?_)
 ·unfold cloneSI
  refine Weak.list ?_ ?_; (all_goals simp (disch := omega) only [AllF, AllL, x11, j11, z11, exists_eq_left', go_sem, seval, policyD, topoD, configD]); (all_goals (repeat' (with_reducible apply And.intro))); (all_goals try (first | exact q9 rfl | (refine q12 ?_; omega) | (refine q9 ?_; simp; done)))
 obtain ⟨i, s, M, hi, hM, hg, hsp⟩ := x
 unfold cloneSI
 by_cases h : i < c.tb.length
 ·have r1 := j59 c.tb i
  have hb := hat i
  have sn : ∀ {v M2}, GrowsM M M2 → HoldR M2 59 1 (tabLen c.tb i) (tabCell c.tb i) v → TabsM M2 c.tb (updS s i v) (i + 1) := by
   intro v M2 hgr hv k hk
   by_cases hki : k = i
   ·subst hki; rw [q59]; exact hv
   ·rw [z43 _ _ hki]; exact (hM k (by omega)).mono hgr
  have sp : ∀ {v}, NewV M v → SepT c.tb (updS s i v) (i + 1) := by
   intro v hnv p q hp hq hne h1 h2 b m c1 m' c1' e1 e2
   have held : ∀ k, k < i → 0 < tabLen c.tb k → ∀ b m c1, s k = .slice (some ⟨b, 0, none⟩) m c1 → M b ≠ none := by
    intro k hk hl b m c1 e hno
    rcases hM k hk with ⟨h0, _⟩ | ⟨b', c', cap, f', e', _, hb', _⟩
    ·omega
    ·rw [e] at e'; cases e'; rw [hno] at hb'; cases hb'
   by_cases hpi : p = i
   ·subst hpi
    rw [q59] at e1
    rw [z43 _ _ (Ne.symm hne)] at e2
    exact held q (by omega) h2 b m' c1' e2 (hnv b m c1 e1)
   ·rw [z43 _ _ hpi] at e1
    by_cases hqi : q = i
    ·subst hqi
     rw [q59] at e2
     exact held p (by omega) h1 b m c1 e1 (hnv b m' c1' e2)
    ·rw [z43 _ _ hqi] at e2
     exact hsp p q (by omega) (by omega) hne h1 h2 b m c1 m' c1' e1 e2
  unfold tabLen tabCell at sn
  generalize c.tb.getD i [] = x at r1 hb sn
  have hx := hb.1
  (repeat ((fail_if_success (show AWP _ _ (.region 7 _ _) _ _)); first | apply j0 | refine q8 rfl ?_ | refine z8 rfl ?_ | apply x7 | (refine j4 fun K hK => ?_) | (refine x5 fun K hK => ?_) | ((first | apply j6 | apply z7 | ((first | refine x4 (hK _ ?_) | refine x6 (hK _ _ j5 ?_)); clear hK K)); (first | show AWP _ _ _ _ _ | ((try simp only [j7]); first | show loopQ _ _ _ _ _ _ | show cutQ _ _ _ _ | show AWP _ _ _ _ _))) | ((first | refine x8 [1] rfl ?_ | refine j8 [1] rfl ?_); simp (disch := omega) only [go_sem, seval, policyD, topoD, configD, r1]; (repeat (first | refine ⟨by omega, ?_⟩ | refine ⟨True.intro, ?_⟩)))))
  refine j4 fun K hK => ?_
  iterate 2 ((first | refine q28 [1] rfl rfl ?_ | refine z28 [1] rfl rfl ?_ | refine x26 rfl rfl ?_ | refine j26 rfl rfl ?_); simp (disch := omega) only [go_sem, seval, policyD, topoD, configD, r1]; (repeat (first | refine ⟨by omega, ?_⟩ | refine ⟨True.intro, ?_⟩)))
  (refine j17 (z17 [(1999, 1999)] rfl rfl rfl rfl rfl rfl (deepS_c x hb M) (fun _ => rfl) (j13 (by repeat (first | exact trivial | refine ⟨rfl, ?_⟩)) (by kernel_rfl)) (fun _ => (j13 (by repeat (first | exact trivial | refine ⟨rfl, ?_⟩)) (by kernel_rfl)))) ?_); rintro ⟨⟨v, M2⟩, hv, hg2, hnv⟩; simp (disch := omega) only [go_sem, seval, policyD, topoD, configD, r1]
  have hM2 := sn hg2 hv
  (repeat (first | apply j0 | refine q8 rfl ?_ | refine z8 rfl ?_ | apply x7 | (refine j4 fun K hK => ?_) | (refine x5 fun K hK => ?_) | ((first | apply j6 | apply z7 | ((first | refine x4 (hK _ ?_) | refine x6 (hK _ _ j5 ?_)); clear hK K)); (first | show AWP _ _ _ _ _ | ((try simp only [j7]); first | show loopQ _ _ _ _ _ _ | show cutQ _ _ _ _ | show AWP _ _ _ _ _))) | ((first | refine x8 [1] rfl ?_ | refine j8 [1] rfl ?_); simp (disch := omega) only [go_sem, seval, policyD, topoD, configD, r1]; (repeat (first | refine ⟨by omega, ?_⟩ | refine ⟨True.intro, ?_⟩)))))
  refine ⟨⟨i + 1, updS s i v, M2, by omega, hM2, hg.trans hg2, sp hnv⟩, by simp only []; omega, ?_⟩
  refine Weak.list ?_ ?_; (all_goals simp (disch := omega) only [AllF, AllL, x11, j11, z11, exists_eq_left', go_sem, seval, policyD, topoD, configD, r1]); (all_goals (repeat' (with_reducible apply And.intro))); (all_goals try (first | exact q9 rfl | (refine q12 ?_; omega) | (refine q9 ?_; simp; done)))
  ·exact q31 rfl rfl (fun k hk => j163 s v i k hk)
 ·have : i = c.tb.length := by omega
  subst this
  have c6 := q167 c.tb.length (rowVal s) (by omega)
  (repeat (first | apply j0 | refine q8 rfl ?_ | refine z8 rfl ?_ | apply x7 | (refine j4 fun K hK => ?_) | (refine x5 fun K hK => ?_) | ((first | apply j6 | apply z7 | ((first | refine x4 (hK _ ?_) | refine x6 (hK _ _ j5 ?_)); clear hK K)); (first | show AWP _ _ _ _ _ | ((try simp only [j7]); first | show loopQ _ _ _ _ _ _ | show cutQ _ _ _ _ | show AWP _ _ _ _ _))) | ((first | refine j10 rfl rfl rfl ?_ | refine q11 rfl rfl rfl ?_); simp (disch := omega) only [go_sem, seval, policyD, topoD, configD]; (first | refine ⟨_, c6, ?_⟩)) | ((first | refine x8 [1] rfl ?_ | refine j8 [1] rfl ?_); simp (disch := omega) only [go_sem, seval, policyD, topoD, configD]; (repeat (first | refine ⟨by omega, ?_⟩ | refine ⟨True.intro, ?_⟩)))))
  refine q10 ?_
  refine (x43 ⟨⟨(s, M), hM, hg, hsp⟩, rfl, rfl⟩ ?_ ?_).1
  ·refine ⟨⟨.agg (cfgS c s), ?_, rfl⟩, trivial⟩
   simp (disch := omega) only [cfgS, ResVar, ptrLoc, go_sem, seval, policyD, topoD, configD]
  ·simp [AL.look]
def DLe (x y : Dat) : Prop := ∀ (w : World) (g : Nat → Nat) (v : Value), RelD w g v x → RelD w g v y
inductive DLes : List Dat → List Dat → Prop
 | nil : DLes [] []
 | cons {x y : Dat} {xs ys : List Dat} (h : DLe x y) (t : DLes xs ys) : DLes (x :: xs) (y :: ys)
theorem j108 (x : Dat) : DLe x x := fun _ _ _ h => h
theorem DLes.refl : ∀ xs : List Dat, DLes xs xs
 | [] => .nil
 | x :: xs => .cons (j108 x) (DLes.refl xs)
theorem DLes.of_eq {xs ys : List Dat} (h : xs = ys) : DLes xs ys := h ▸ DLes.refl xs
theorem DLes.length {xs ys : List Dat} (h : DLes xs ys) : xs.length = ys.length := by
 induction h with
 | nil => rfl
 | cons _ _ ih => simp [ih]
theorem DLes.at {xs ys : List Dat} (h : DLes xs ys) : ∀ {j : Nat} {y : Dat}, ys[j]? = some y → ∃ x, xs[j]? = some x ∧ DLe x y := by
 induction h with
 | nil => intro j y h; simp at h
 |cons h t ih =>
  intro j y hy
  cases j with
  | zero => simp at hy; subst hy; exact ⟨_, by simp, h⟩
  | succ j => simp at hy; obtain ⟨x, h1, h2⟩ := ih hy; exact ⟨x, by simpa using h1, h2⟩
theorem q37 {sz n n' : Nat} {f f' : Nat → List Dat} (hn : n = n') (hf : ∀ i, i < n → DLes (f i) (f' i)) : DLe (.sl sz n f) (.sl sz n' f') := by
 subst hn
 intro w g v r
 cases r with
 | sl0 a c sz f => exact .sl0 _ _ _ _
 |sl b off n c sz f u h1 h2 h3 h4 h5 =>
  refine .sl b off n c sz f' u h1 (fun i hi => by rw [← (hf i hi).length]; exact h2 i hi) h3 h4 (fun i j y hi hy => ?_)
  obtain ⟨x, k1, k2⟩ := (hf i hi).at hy
  exact k2 _ _ _ (h5 i j x hi k1)
theorem q109 {a : Option Addr} {c sz : Nat} {f : Nat → List Dat} : DLe (.v (.slice a 0 c)) (.sl sz 0 f) := by
 intro w g v r
 cases r
 exact .sl0 _ _ _ _
theorem z109 {xs ys : List Dat} (h : DLes xs ys) : PLe (.agg xs) (.agg ys) := by
 intro w g v r
 cases r with
 |agg vs _ h1 h2 =>
  refine .agg vs ys (by rw [h1, h.length]) (fun j v y hv hy => ?_)
  obtain ⟨x, k1, k2⟩ := h.at hy
  exact k2 _ _ _ (h2 j v x hv k1)
theorem j170 {P : Program} {f : FuncId} {xs : List PV} {ds ds' : List Dat} (h : DLes ds ds') (c : ACalls P f xs (· = [.agg ds])) : ACalls P f xs (· = [.agg ds']) := by
 refine q24.2 fun w g vs hz hr => ?_
 have := q24.1 c w g vs hz hr
 unfold CallRes at *
 split at this
 ·refine this.mono fun e w' ⟨v, he, g', rs, h1, h2, h3⟩ => ?_
  subst h2
  exact ⟨v, he, g', _, h1, rfl, z109 h _ _ _ h3⟩
 ·obtain ⟨g', rs, h1, h2, h3⟩ := this
  subst h2
  exact ⟨g', _, h1, rfl, z109 h _ _ _ h3⟩
 ·exact this.elim
def errL : List (List Rule) → Int
 | [] => 0
 | l :: r => if (tabR l).2 = 0 then errL r else (tabR l).2
def mapL (l : List (List Rule)) : List (List Rule) := l.map fun x => (tabR x).1
def errT : List (List (List Rule)) → Int
 | [] => 0
 | t :: r => if errL t = 0 then errT r else errL t
def cfg0 : Config := ⟨[], ⟨0, [], []⟩, []⟩
def slimC (c : Config) : Config × Int := if soundC c = 0 then (if errT c.tb = 0 then (⟨c.tp, c.po, c.tb.map mapL⟩, 0) else (cfg0, errT c.tb)) else (cfg0, soundC c)
theorem q171 {α : Type} (l : List α) (k : Nat) : (l.eraseIdx k).length ≤ l.length := by
 rw [List.length_eraseIdx]; split <;> omega
theorem x109 : ∀ (k : Nat) (l : List Rule), (tabGo k l).1.length ≤ l.length
 | 0, l => Nat.le_refl _
 |k + 1, l => by
  unfold tabGo
  split
  ·refine Nat.le_trans (x109 k _) ?_
   split
   ·exact q171 _ _
   ·exact Nat.le_refl _
  ·simp
theorem j109 (l : List Rule) : (tabR l).1.length ≤ l.length := by
 unfold tabR
 split
 ·exact x109 _ _
 ·simp
theorem z171 : (tabR []).1 = [] := List.eq_nil_of_length_eq_zero (by have := j109 []; simpa using this)
theorem x171 : mapL [] = [] := rfl
theorem j171 (l : List (List Rule)) : (mapL l).length = l.length := by unfold mapL; simp
theorem mapL_at (l : List (List Rule)) (i : Nat) : (mapL l).getD i [] = (tabR (l.getD i [])).1 := by
 unfold mapL
 rw [List.getD_eq_getElem?_getD, List.getD_eq_getElem?_getD, List.getElem?_map]
 cases l[i]? <;> simp [z171]
theorem mapT_at (t : List (List (List Rule))) (i : Nat) : (t.map mapL).getD i [] = mapL (t.getD i []) := by
 rw [List.getD_eq_getElem?_getD, List.getD_eq_getElem?_getD, List.getElem?_map]
 cases t[i]? <;> simp [x171]
def mixF (x : List (List Rule)) (j i : Nat) : List Rule := if i < j then (tabR (x.getD i [])).1 else x.getD i []
def rowMix (x : List (List Rule)) (j : Nat) : Nat → List Dat := fun i => [.sl 12 (mixF x j i).length (rowR (mixF x j i))]
def tabSl (t : List (List (List Rule))) (k i : Nat) : Nat → List Dat := rowMix (t.getD i []) (if i < k then (t.getD i []).length else 0)
theorem q172 (x : List (List Rule)) (i : Nat) : rowMix x 0 i = rowRR x i := rfl
theorem z172 (x : List (List Rule)) (i : Nat) (hi : i < x.length) : rowMix x x.length i = rowRR (mapL x) i := by
 unfold rowMix mixF rowRR
 rw [if_pos hi, mapL_at]
theorem x172 (x : List (List Rule)) (j i : Nat) (f : Nat → List Dat) (hf : f i = rowMix x j i) : putEl f j 0 [.sl 12 (tabR (x.getD j [])).1.length (rowR (tabR (x.getD j [])).1)] i = if i = j then [Dat.sl 12 (tabR (x.getD j [])).1.length (rowR (tabR (x.getD j [])).1)] ++ (f j).drop 1 else rowMix x j i := by
 unfold putEl
 split
 ·simp
 ·exact hf
structure SlcS (c : Config) (s : Nat → Value) (R : Int) where
 k : Nat
 M : Nat → Option Ent
 hk : k ≤ c.tb.length
 hR : errT (c.tb.drop k) = R
 h : ∀ i, i < c.tb.length → HoldR M 59 1 (tabLen c.tb i) (tabSl c.tb k i) (s i)
structure SljS (x : List (List Rule)) (M : Nat → Option Ent) (b cap : Nat) (Q : Int) where
 j : Nat
 M' : Nat → Option Ent
 f : Nat → List Dat
 hj : j ≤ x.length
 hM : M' b = some ⟨59, 1, cap, x.length, f⟩
 hf : ∀ i, i < x.length → f i = rowMix x j i
 ho : ∀ b', b' ≠ b → M' b' = M b'
 hQ : errL (x.drop j) = Q
def zCells : List AV := [.p (.d (.v (.slice none 0 0))), .p (.d (.v (.int .i64 0))), .p (.d (.v (.slice none 0 0))), .p (.d (.v (.slice none 0 0))), .p (.d (.v (.slice none 0 0)))]
def cCells (c : Config) (s : Nat → Value) : List AV := [.p (.d (.sl 1 c.tp.length (rowPP c.tp))), .p (.d (.v (.int .i64 c.po.tn))), .p (.d (.sl 2 c.po.peers.length (rowA c.po.peers))), .p (.d (.sl 3 c.po.ways.length (rowW c.po.ways))), .p (.d (.sl 1 c.tb.length (rowVal s)))]
def slcI (c : Config) (s : Nat → Value) (R : Int) (x : SlcS c s R) : ASt :=
 ⟨[(22, .p (.d (.v (.int .i64 (x.k : Int))))), (21, .p (.d (.v (.int .i64 (c.tb.length : Int))))), (20, .p (.d (.sl 1 c.tb.length (rowVal s)))), (5, .loc 5 0), (2, .loc 2 0)], [(5, .cells 84 (cCells c s)), (2, .cells 84 zCells), (1999, .raw x.M)]⟩
def sljI (c : Config) (s : Nat → Value) (k : Nat) (x : List (List Rule)) (M : Nat → Option Ent) (b cap cc : Nat) (Q : Int) (z : SljS x M b cap Q) : ASt :=
 ⟨[(28, .p (.d (.v (.int .i64 (z.j : Int))))), (27, .p (.d (.v (.int .i64 (x.length : Int))))), (7, .p (.d (.v (.slice (some ⟨b, 0, none⟩) x.length cc)))), (22, .p (.d (.v (.int .i64 (k : Int))))), (21, .p (.d (.v (.int .i64 (c.tb.length : Int))))), (20, .p (.d (.sl 1 c.tb.length (rowVal s)))), (5, .loc 5 0), (2, .loc 2 0)],
  [(5, .cells 84 (cCells c s)), (2, .cells 84 zCells), (1999, .raw z.M')]⟩
def zC : List AV := [.p (.d (.sl 1 0 (rowPP []))), .p (.d (.v (.int .i64 0))), .p (.d (.sl 2 0 (rowA []))), .p (.d (.sl 3 0 (rowW []))), .p (.d (.sl 1 0 (rowTT [])))]
theorem q110 : LesD zCells zC := .cons j21 (.cons (Le.refl _) (.cons j21 (.cons j21 (.cons j21 .nil))))
theorem errL_or (l : List (List Rule)) (j : Nat) (h : j < l.length) : errL (l.drop j) = if (tabR (l.getD j [])).2 = 0 then errL (l.drop (j + 1)) else (tabR (l.getD j [])).2 := by
 rw [j31 l j [] h]; rfl
theorem errT_or (t : List (List (List Rule))) (j : Nat) (h : j < t.length) : errT (t.drop j) = if errL (t.getD j []) = 0 then errT (t.drop (j + 1)) else errL (t.getD j []) := by
 rw [j31 t j [] h]; rfl
theorem j172 (t : List (List (List Rule))) (k i : Nat) (hne : i ≠ k) : tabSl t (k + 1) i = tabSl t k i := by
 unfold tabSl
 by_cases h : i < k
 ·rw [if_pos h, if_pos (by omega)]
 ·rw [if_neg h, if_neg (by omega)]
set_option maxRecDepth 100000 in
set_option maxHeartbeats 8000000 in
theorem q173 (c : Config) (hc : c.small) : ACalls Tryz.prog 34 [.agg (configD c)] (· = [.agg (configD (slimC c).1), .d (.v (.int .i64 (slimC c).2))]) := by
 have ks := z169 c hc
 have z5 := hc.tb
 have hat := hc.at
 unfold slimC
 by_cases hs : soundC c = 0
 ·rw [if_pos hs]
  rw [hs] at ks
  obtain ⟨R, hR⟩ : ∃ R, errT c.tb = R := ⟨_, rfl⟩
  rw [hR]
  refine z12 Tryz.func34 rfl (by decide +kernel) (by rw [Tryz.ntmps34]; simp) ?_; rw [Tryz.ntmps34]; simp only [frOf]
  refine z106 rfl ?_
  (repeat ((fail_if_success (show AWP _ _ (.region 4 _ _) _ _)); first | apply j0 | refine q8 rfl ?_ | refine z8 rfl ?_ | apply x7 | (refine j4 fun K hK => ?_) | (refine x5 fun K hK => ?_) | ((first | apply j6 | apply z7 | ((first | refine x4 (hK _ ?_) | refine x6 (hK _ _ j5 ?_)); clear hK K)); (first | show AWP _ _ _ _ _ | ((try simp only [j7]); first | show loopQ _ _ _ _ _ _ | show cutQ _ _ _ _ | show AWP _ _ _ _ _))) | ((first | refine j10 rfl rfl rfl ?_ | refine q11 rfl rfl rfl ?_); simp (disch := omega) only [go_sem, seval, cfgS, zCells, cCells, configD]; (first | refine ⟨_, ks, ?_⟩)) | ((first | refine x8 [] rfl ?_ | refine j8 [] rfl ?_); simp (disch := omega) only [go_sem, seval, cfgS, zCells, cCells, configD]; (repeat (first | refine ⟨by omega, ?_⟩ | refine ⟨True.intro, ?_⟩)))))
  refine j4 fun K hK => ?_
  iterate 1 ((first | refine q28 [] rfl rfl ?_ | refine z28 [] rfl rfl ?_ | refine x26 rfl rfl ?_ | refine j26 rfl rfl ?_); simp (disch := omega) only [go_sem, seval, cfgS, zCells, cCells, configD]; (repeat (first | refine ⟨by omega, ?_⟩ | refine ⟨True.intro, ?_⟩)))
  (refine j17 (z17 [(1999, 1999)] rfl rfl rfl rfl rfl rfl (x170 c hc noM) (fun _ => rfl) (j13 (by repeat (first | exact trivial | refine ⟨rfl, ?_⟩)) (by kernel_rfl)) (fun _ => (j13 (by repeat (first | exact trivial | refine ⟨rfl, ?_⟩)) (by kernel_rfl)))) ?_); rintro ⟨⟨s, M⟩, hM, hg, hsp⟩; simp (disch := omega) only [go_sem, seval, cfgS, zCells, cCells, configD]
  (repeat (first | apply j0 | refine q8 rfl ?_ | refine z8 rfl ?_ | apply x7 | (refine j4 fun K hK => ?_) | (refine x5 fun K hK => ?_) | ((first | apply j6 | apply z7 | ((first | refine x4 (hK _ ?_) | refine x6 (hK _ _ j5 ?_)); clear hK K)); (first | show AWP _ _ _ _ _ | ((try simp only [j7]); first | show loopQ _ _ _ _ _ _ | show cutQ _ _ _ _ | show AWP _ _ _ _ _))) | ((first | refine x8 [] rfl ?_ | refine j8 [] rfl ?_); simp (disch := omega) only [go_sem, seval, cfgS, zCells, cCells, configD]; (repeat (first | refine ⟨by omega, ?_⟩ | refine ⟨True.intro, ?_⟩)))))
  refine x13 (slcI c s R) (fun x => c.tb.length - x.k) ⟨0, M, by omega, hR, fun i hi => ?_⟩ ?_ (fun x => ?_)
  ·unfold tabSl; rw [if_neg (by omega)]; exact hM i hi
  ·unfold slcI
   refine Weak.list ?_ ?_; (all_goals simp (disch := omega) only [AllF, AllL, x11, j11, z11, exists_eq_left', go_sem, seval, cfgS, zCells, cCells, configD]); (all_goals (repeat' (with_reducible apply And.intro))); (all_goals try (first | exact q9 rfl | (refine q12 ?_; omega) | (refine q9 ?_; simp; done)))
  obtain ⟨k, M, hk, hR, hH⟩ := x
  unfold slcI
  simp only [] at hk hR hH ⊢
  by_cases hkl : k < c.tb.length
  ·rw [errT_or c.tb k hkl] at hR
   have hHk := hH k hkl
   have hb := hat k
   have eK : tabSl c.tb k k = rowRR (c.tb.getD k []) := by unfold tabSl; rw [if_neg (by omega)]; rfl
   rw [eK] at hHk
   have r1 := x163 s k
   have nextH : ∀ M', HoldR M' 59 1 (tabLen c.tb k) (rowMix (c.tb.getD k []) (c.tb.getD k []).length) (s k) → (∀ i, i < c.tb.length → i ≠ k → HoldR M' 59 1 (tabLen c.tb i) (tabSl c.tb k i) (s i)) →
     ∀ i, i < c.tb.length → HoldR M' 59 1 (tabLen c.tb i) (tabSl c.tb (k + 1) i) (s i) := by
    intro M' h1 h2 i hi
    by_cases hik : i = k
    ·subst hik
     unfold tabSl
     rw [if_pos (Nat.lt_succ_self _)]
     exact h1
    ·rw [j172 _ _ _ hik]; exact h2 i hi hik
   have hsepk : ∀ b m c1, s k = .slice (some ⟨b, 0, none⟩) m c1 → 0 < tabLen c.tb k → ∀ i, i < c.tb.length → i ≠ k → ∀ m' c', s i = .slice (some ⟨b, 0, none⟩) m' c' → tabLen c.tb i = 0 := by
    intro b m c1 e1 h0 i hi hik m' c' e2
    by_cases h : 0 < tabLen c.tb i
    ·exact absurd e2 (hsp k i hkl hi (fun e => hik e.symm) h0 h b m c1 m' c' e1)
    ·omega
   unfold tabLen at hHk hsepk nextH
   generalize c.tb.getD k [] = x at hHk hb nextH hR hsepk
   have hx := hb.1
   rcases hHk with ⟨h0, aa, cc, hv⟩ | ⟨b, cc, cap, f, hv, hcc, hMb, hf⟩
   ·have hx0 := List.eq_nil_of_length_eq_zero h0
    subst hx0
    rw [hv] at r1
    (repeat (first | apply j0 | refine q8 rfl ?_ | refine z8 rfl ?_ | apply x7 | (refine j4 fun K hK => ?_) | (refine x5 fun K hK => ?_) | ((first | apply j6 | apply z7 | ((first | refine x4 (hK _ ?_) | refine x6 (hK _ _ j5 ?_)); clear hK K)); (first | show AWP _ _ _ _ _ | ((try simp only [j7]); first | show loopQ _ _ _ _ _ _ | show cutQ _ _ _ _ | show AWP _ _ _ _ _))) | ((first | refine x8 [] rfl ?_ | refine j8 [] rfl ?_); simp (disch := omega) only [go_sem, seval, cfgS, zCells, cCells, configD, r1]; (repeat (first | refine ⟨by omega, ?_⟩ | refine ⟨True.intro, ?_⟩)))))
    refine x13 (fun _ : Unit => ⟨[(28, .p (.d (.v (.int .i64 0)))), (27, .p (.d (.v (.int .i64 0)))), (22, .p (.d (.v (.int .i64 (k : Int))))), (21, .p (.d (.v (.int .i64 (c.tb.length : Int))))), (20, .p (.d (.sl 1 c.tb.length (rowVal s)))), (5, .loc 5 0), (2, .loc 2 0)], [(5, .cells 84 (cCells c s)), (2, .cells 84 zCells), (1999, .raw M)]⟩) (fun _ => 0) () ?_ (fun _ => ?_)
    ·refine Weak.list ?_ ?_; (all_goals simp (disch := omega) only [AllF, AllL, x11, j11, z11, exists_eq_left', go_sem, seval, cfgS, zCells, cCells, configD, r1]); (all_goals (repeat' (with_reducible apply And.intro))); (all_goals try (first | exact q9 rfl | (refine q12 ?_; omega) | (refine q9 ?_; simp; done)))
    (repeat (first | apply j0 | refine q8 rfl ?_ | refine z8 rfl ?_ | apply x7 | (refine j4 fun K hK => ?_) | (refine x5 fun K hK => ?_) | ((first | apply j6 | apply z7 | ((first | refine x4 (hK _ ?_) | refine x6 (hK _ _ j5 ?_)); clear hK K)); (first | show AWP _ _ _ _ _ | ((try simp only [j7]); first | show loopQ _ _ _ _ _ _ | show cutQ _ _ _ _ | show AWP _ _ _ _ _))) | ((first | refine x8 [] rfl ?_ | refine j8 [] rfl ?_); simp (disch := omega) only [go_sem, seval, cfgS, zCells, cCells, configD, r1]; (repeat (first | refine ⟨by omega, ?_⟩ | refine ⟨True.intro, ?_⟩)))))
    refine ⟨⟨k + 1, M, by omega, hR, nextH M ?_ ?_⟩, by simp only []; omega, ?_⟩
    ·rw [hv]; exact .inl ⟨rfl, _, _, rfl⟩
    ·intro i hi _; exact hH i hi
    ·refine Weak.list ?_ ?_; (all_goals simp (disch := omega) only [AllF, AllL, x11, j11, z11, exists_eq_left', go_sem, seval, cfgS, zCells, cCells, configD, r1]); (all_goals (repeat' (with_reducible apply And.intro))); (all_goals try (first | exact q9 rfl | (refine q12 ?_; omega) | (refine q9 ?_; simp; done)))
   ·rw [hv] at r1
    (repeat (first | apply j0 | refine q8 rfl ?_ | refine z8 rfl ?_ | apply x7 | (refine j4 fun K hK => ?_) | (refine x5 fun K hK => ?_) | ((first | apply j6 | apply z7 | ((first | refine x4 (hK _ ?_) | refine x6 (hK _ _ j5 ?_)); clear hK K)); (first | show AWP _ _ _ _ _ | ((try simp only [j7]); first | show loopQ _ _ _ _ _ _ | show cutQ _ _ _ _ | show AWP _ _ _ _ _))) | ((first | refine x8 [] rfl ?_ | refine j8 [] rfl ?_); simp (disch := omega) only [go_sem, seval, cfgS, zCells, cCells, configD, r1]; (repeat (first | refine ⟨by omega, ?_⟩ | refine ⟨True.intro, ?_⟩)))))
    obtain ⟨Q, hQ⟩ : ∃ Q, errL x = Q := ⟨_, rfl⟩
    rw [hQ] at hR
    refine x13 (sljI c s k x M b cap cc Q) (fun z => x.length - z.j) ⟨0, M, f, Nat.zero_le _, hMb, fun i hi => by rw [q172]; exact hf i hi, fun _ _ => rfl, hQ⟩ ?_ (fun z => ?_)
    ·unfold sljI
     refine Weak.list ?_ ?_; (all_goals simp (disch := omega) only [AllF, AllL, x11, j11, z11, exists_eq_left', go_sem, seval, cfgS, zCells, cCells, configD, r1]); (all_goals (repeat' (with_reducible apply And.intro))); (all_goals try (first | exact q9 rfl | (refine q12 ?_; omega) | (refine q9 ?_; simp; done)))
    obtain ⟨j, M', f', hj, hM', hf', ho, hQ'⟩ := z
    unfold sljI
    simp only [] at hj hM' hf' ho hQ' ⊢
    by_cases hjl : j < x.length
    ·rw [errL_or x j hjl] at hQ'
     have hl1 := j36 hb j
     have r2 : f' j = [.sl 12 (x.getD j []).length (rowR (x.getD j []))] := by
      rw [hf' j hjl]
      unfold rowMix mixF
      rw [if_neg (by omega)]
     have hput : ∀ i, i < x.length → putEl f' j 0 [.sl 12 (tabR (x.getD j [])).1.length (rowR (tabR (x.getD j [])).1)] i = rowMix x (j + 1) i := by
      intro i hi
      rw [x172 x j i f' (hf' i hi)]
      split
      ·rename_i e; subst e
       rw [r2]
       unfold rowMix mixF
       rw [if_pos (by omega)]; rfl
      ·rename_i hne
       unfold rowMix mixF
       by_cases h : i < j
       ·rw [if_pos h, if_pos (by omega)]
       ·rw [if_neg h, if_neg (by omega)]
     have kt := j73 (x.getD j []) (by omega)
     generalize tabR (x.getD j []) = u at kt hput hQ'
     generalize x.getD j [] = y at kt r2 hl1
     obtain ⟨u, e⟩ := u
     simp only [] at kt hput hQ'
     by_cases he : e = 0
     ·subst he
      rw [if_pos rfl] at hQ'
      (repeat (first | apply j0 | refine q8 rfl ?_ | refine z8 rfl ?_ | apply x7 | (refine j4 fun K hK => ?_) | (refine x5 fun K hK => ?_) | ((first | apply j6 | apply z7 | ((first | refine x4 (hK _ ?_) | refine x6 (hK _ _ j5 ?_)); clear hK K)); (first | show AWP _ _ _ _ _ | ((try simp only [j7]); first | show loopQ _ _ _ _ _ _ | show cutQ _ _ _ _ | show AWP _ _ _ _ _))) | ((first | refine j10 rfl rfl rfl ?_ | refine q11 rfl rfl rfl ?_); simp (disch := omega) only [go_sem, seval, cfgS, zCells, cCells, configD, r2, hM']; (first | refine ⟨_, kt, ?_⟩)) | ((first | refine x8 [] rfl ?_ | refine j8 [] rfl ?_); simp (disch := omega) only [go_sem, seval, cfgS, zCells, cCells, configD, r2, hM']; (repeat (first | refine ⟨by omega, ?_⟩ | refine ⟨True.intro, ?_⟩)))))
      refine ⟨⟨j + 1, setM M' b (some ⟨59, 1, cap, x.length, putEl f' j 0 [.sl 12 u.length (rowR u)]⟩), putEl f' j 0 [.sl 12 u.length (rowR u)], by omega, q25 _ _ _, hput, fun b' hb' => by rw [j37 _ _ hb']; exact ho b' hb', hQ'⟩, by simp only []; omega, ?_⟩
      refine Weak.list ?_ ?_; (all_goals simp (disch := omega) only [AllF, AllL, x11, j11, z11, exists_eq_left', go_sem, seval, cfgS, zCells, cCells, configD, r2, hM']); (all_goals (repeat' (with_reducible apply And.intro))); (all_goals try (first | exact q9 rfl | (refine q12 ?_; omega) | (refine q9 ?_; simp; done)))
     ·rw [if_neg he] at hQ'
      subst hQ'
      rw [if_neg he] at hR
      subst hR
      rw [if_neg he]
      have q := x14 he
      (repeat (first | apply j0 | refine q8 rfl ?_ | refine z8 rfl ?_ | apply x7 | (refine j4 fun K hK => ?_) | (refine x5 fun K hK => ?_) | ((first | apply j6 | apply z7 | ((first | refine x4 (hK _ ?_) | refine x6 (hK _ _ j5 ?_)); clear hK K)); (first | show AWP _ _ _ _ _ | ((try simp only [j7]); first | show loopQ _ _ _ _ _ _ | show cutQ _ _ _ _ | show AWP _ _ _ _ _))) | ((first | refine j10 rfl rfl rfl ?_ | refine q11 rfl rfl rfl ?_); simp (disch := omega) only [go_sem, seval, cfgS, zCells, cCells, configD, r2, hM', q]; (first | refine ⟨_, kt, ?_⟩)) | ((first | refine x8 [] rfl ?_ | refine j8 [] rfl ?_); simp (disch := omega) only [go_sem, seval, cfgS, zCells, cCells, configD, r2, hM', q]; (repeat (first | refine ⟨by omega, ?_⟩ | refine ⟨True.intro, ?_⟩)))))
      refine q18 (A' := ⟨[(3, .p (.d (.v (.int .i64 e)))), (2, .loc 2 0)], [(2, .cells 84 zC)]⟩) ?_ ?_
      ·refine Weak.list ?_ ?_; (all_goals simp (disch := omega) only [AllF, AllL, x11, j11, z11, exists_eq_left', go_sem, seval, cfgS, zCells, cCells, configD, r2, hM', q]); (all_goals (repeat' (with_reducible apply And.intro))); (all_goals try (first | exact q9 rfl | (refine q12 ?_; omega) | (refine q9 ?_; simp; done)))
       exact x96 q110
      unfold zC
      refine q10 ⟨_, ?_, rfl⟩; rw [Tryz.results34]; simp (disch := omega) only [ResVars, ResVar, ptrLoc, go_sem, seval, cfgS, zCells, cCells, configD, r2, hM', q]
      rfl
    ·have : j = x.length := by omega
     subst this
     rw [List.drop_length] at hQ'
     have hQ' : (0 : Int) = Q := hQ'
     subst hQ'
     rw [if_pos rfl] at hR
     (repeat (first | apply j0 | refine q8 rfl ?_ | refine z8 rfl ?_ | apply x7 | (refine j4 fun K hK => ?_) | (refine x5 fun K hK => ?_) | ((first | apply j6 | apply z7 | ((first | refine x4 (hK _ ?_) | refine x6 (hK _ _ j5 ?_)); clear hK K)); (first | show AWP _ _ _ _ _ | ((try simp only [j7]); first | show loopQ _ _ _ _ _ _ | show cutQ _ _ _ _ | show AWP _ _ _ _ _))) | ((first | refine x8 [] rfl ?_ | refine j8 [] rfl ?_); simp (disch := omega) only [go_sem, seval, cfgS, zCells, cCells, configD, hM']; (repeat (first | refine ⟨by omega, ?_⟩ | refine ⟨True.intro, ?_⟩)))))
     refine ⟨⟨k + 1, M', by omega, hR, nextH M' ?_ ?_⟩, by simp only []; omega, ?_⟩
     ·rw [hv]; exact .inr ⟨b, cc, cap, f', rfl, hcc, hM', hf'⟩
     ·intro i hi hik
      rcases hH i hi with h | ⟨b', c', cap', f'', e1, e2, e3, e4⟩
      ·exact .inl h
      ·by_cases hbb : b' = b
       ·subst hbb
        have h1 : tabLen c.tb i = 0 := by
         by_cases hx0 : 0 < x.length
         ·exact hsepk b' _ _ hv hx0 i hi hik _ _ e1
         ·rw [hMb] at e3
          injection e3 with e3
          injection e3 with _ _ _ e3 _
          omega
        exact .inl ⟨h1, _, _, by rw [e1, h1]⟩
       ·exact .inr ⟨b', c', cap', f'', e1, e2, by rw [ho b' hbb]; exact e3, e4⟩
     ·refine Weak.list ?_ ?_; (all_goals simp (disch := omega) only [AllF, AllL, x11, j11, z11, exists_eq_left', go_sem, seval, cfgS, zCells, cCells, configD, hM']); (all_goals (repeat' (with_reducible apply And.intro))); (all_goals try (first | exact q9 rfl | (refine q12 ?_; omega) | (refine q9 ?_; simp; done)))
  ·have : k = c.tb.length := by omega
   subst this
   rw [List.drop_length] at hR
   have hR : (0 : Int) = R := hR
   subst hR
   rw [if_pos rfl]
   (repeat ((fail_if_success (show AWP _ _ (.region 17 _ _) _ _)); first | apply j0 | refine q8 rfl ?_ | refine z8 rfl ?_ | apply x7 | (refine j4 fun K hK => ?_) | (refine x5 fun K hK => ?_) | ((first | apply j6 | apply z7 | ((first | refine x4 (hK _ ?_) | refine x6 (hK _ _ j5 ?_)); clear hK K)); (first | show AWP _ _ _ _ _ | ((try simp only [j7]); first | show loopQ _ _ _ _ _ _ | show cutQ _ _ _ _ | show AWP _ _ _ _ _))) | ((first | refine x8 [] rfl ?_ | refine j8 [] rfl ?_); simp (disch := omega) only [go_sem, seval, cfgS, zCells, cCells, configD]; (repeat (first | refine ⟨by omega, ?_⟩ | refine ⟨True.intro, ?_⟩)))))
   refine j4 fun K hK => ?_
   iterate 1 ((first | refine q28 [] rfl rfl ?_ | refine z28 [] rfl rfl ?_ | refine x26 rfl rfl ?_ | refine j26 rfl rfl ?_); simp (disch := omega) only [go_sem, seval, cfgS, zCells, cCells, configD]; (repeat (first | refine ⟨by omega, ?_⟩ | refine ⟨True.intro, ?_⟩)))
   have hTs : RdD M (.sl 1 c.tb.length (rowVal s)) (.sl 1 c.tb.length (rowTT (c.tb.map mapL))) := by
    refine RowsM.rd (e := 59) (sz := 1) (len := tabLen c.tb) (f := fun i => rowRR (mapL (c.tb.getD i []))) (fun i hi => ?_) (fun i hi => ?_)
    ·have h := hH i hi
     unfold tabSl at h
     rw [if_pos hi] at h
     rcases h with h | ⟨b, cc, cap, f, e1, e2, e3, e4⟩
     ·exact .inl h
     ·exact .inr ⟨b, cc, cap, f, e1, e2, e3, fun j hj => by rw [e4 j hj]; exact z172 _ j hj⟩
    ·unfold rowTT
     rw [mapT_at, j171]; rfl
   refine q86 (Weak.melt _ M 49 _ (.p (.agg [.sl 1 c.tp.length (rowPP c.tp), .v (.int .i64 c.po.tn), .sl 2 c.po.peers.length (rowA c.po.peers), .sl 3 c.po.ways.length (rowW c.po.ways), .sl 1 c.tb.length (rowTT (c.tb.map mapL))])) rfl rfl (.p (.agg _ _ rfl fun j x y hx hy => ?_))) ?_
   ·match j, hx, hy with
    | 0, hx, hy => cases hx; cases hy; exact .refl _
    | 1, hx, hy => cases hx; cases hy; exact .refl _
    | 2, hx, hy => cases hx; cases hy; exact .refl _
    | 3, hx, hy => cases hx; cases hy; exact .refl _
    | 4, hx, hy => cases hx; cases hy; exact hTs
    | j + 5, hx, hy => cases hx
   (repeat (first | apply j0 | refine q8 rfl ?_ | refine z8 rfl ?_ | apply x7 | (refine j4 fun K hK => ?_) | (refine x5 fun K hK => ?_) | ((first | apply j6 | apply z7 | ((first | refine x4 (hK _ ?_) | refine x6 (hK _ _ j5 ?_)); clear hK K)); (first | show AWP _ _ _ _ _ | ((try simp only [j7]); first | show loopQ _ _ _ _ _ _ | show cutQ _ _ _ _ | show AWP _ _ _ _ _))) | ((first | refine x8 [] rfl ?_ | refine j8 [] rfl ?_); simp (disch := omega) only [go_sem, seval, cfgS, zCells, cCells, configD, j20]; (repeat (first | refine ⟨by omega, ?_⟩ | refine ⟨True.intro, ?_⟩)))))
   refine q10 ⟨_, ?_, rfl⟩; rw [Tryz.results34]; simp (disch := omega) only [ResVars, ResVar, ptrLoc, go_sem, seval, cfgS, zCells, cCells, configD, j20]
   rw [List.length_map]
 ·rw [if_neg hs]
  have q : (soundC c != 0) = true := x14 hs
  generalize soundC c = e at *
  refine z12 Tryz.func34 rfl (by decide +kernel) (by rw [Tryz.ntmps34]; simp) ?_; rw [Tryz.ntmps34]; simp only [frOf]
  (repeat (first | apply j0 | refine q8 rfl ?_ | refine z8 rfl ?_ | apply x7 | (refine j4 fun K hK => ?_) | (refine x5 fun K hK => ?_) | ((first | apply j6 | apply z7 | ((first | refine x4 (hK _ ?_) | refine x6 (hK _ _ j5 ?_)); clear hK K)); (first | show AWP _ _ _ _ _ | ((try simp only [j7]); first | show loopQ _ _ _ _ _ _ | show cutQ _ _ _ _ | show AWP _ _ _ _ _))) | ((first | refine j10 rfl rfl rfl ?_ | refine q11 rfl rfl rfl ?_); simp (disch := omega) only [go_sem, seval, cfgS, zCells, cCells, configD, q]; (first | refine ⟨_, ks, ?_⟩)) | ((first | refine x8 [] rfl ?_ | refine j8 [] rfl ?_); simp (disch := omega) only [go_sem, seval, cfgS, zCells, cCells, configD, q]; (repeat (first | refine ⟨by omega, ?_⟩ | refine ⟨True.intro, ?_⟩)))))
  refine q18 (A' := ⟨[(3, .p (.d (.v (.int .i64 e)))), (2, .loc 2 0)], [(2, .cells 84 zC)]⟩) ?_ ?_
  ·refine Weak.list ?_ ?_; (all_goals simp (disch := omega) only [AllF, AllL, x11, j11, z11, exists_eq_left', go_sem, seval, cfgS, zCells, cCells, configD, q]); (all_goals (repeat' (with_reducible apply And.intro))); (all_goals try (first | exact q9 rfl | (refine q12 ?_; omega) | (refine q9 ?_; simp; done)))
   exact x96 q110
  unfold zC
  refine q10 ⟨_, ?_, rfl⟩; rw [Tryz.results34]; simp (disch := omega) only [ResVars, ResVar, ptrLoc, go_sem, seval, cfgS, zCells, cCells, configD, q]
  rfl
end Go.Proofs.YtemcdefpihkfpaaGreat
namespace Go.Proofs.YtemcdefpihkfpaaGreat
open Go.Proofs.YtemcdefpihkfpaaGreat.AL
end Go.Proofs.YtemcdefpihkfpaaGreat
