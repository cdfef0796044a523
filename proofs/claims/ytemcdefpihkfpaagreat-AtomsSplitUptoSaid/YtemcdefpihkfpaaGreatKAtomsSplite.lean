/- Part 5 of a proof: lemmas beneath the theorem that the last text bears. Conditions: none. -/
import Derived.Test.YtemcdefpihkfpaaGreatKAtomsSplitd
set_option linter.unusedSimpArgs false
set_option linter.unusedVariables false
namespace Go.Proofs.YtemcdefpihkfpaaGreat
open Go Go.Proofs.YtemcdefpihkfpaaGreat.AL
theorem few11_c (p : List Cube) (hl : p.length ≤ 1099511627776) : ACalls Tryz.prog 10 [.d (.sl 4 p.length (rowC p))] (· = [.d (.sl 4 (p.take 7).length (rowC (p.take 7)))]) := by
  have rt : ∀ i, i < 7 → rowC p i = rowC (p.take 7) i := fun i hi => by
    unfold rowC
    rw [List.getD_eq_getElem?_getD, List.getD_eq_getElem?_getD, List.getElem?_take_of_lt hi]
  by_cases h : 7 < p.length
  · have e : (p.take 7).length = 7 := by simp; omega
    rw [e]
    refine z10 Tryz.func10 rfl (by decide +kernel) (by rw [Tryz.ntmps10]; simp) ?_; rw [Tryz.ntmps10]; simp only [frOf]
    (repeat (first | refine j0 ?_ | refine x7 rfl ?_ | refine j7 rfl ?_ | refine z6 ?_ | (refine q4 fun K hK => ?_) | (refine x4 (by kernel_rfl) (by kernel_rfl) fun K hK => ?_) | ((first | refine q6 ?_ | refine x6 ?_ | ((first | refine q5 (hK _ ?_) | refine x5 (hK _ _ (j4 (by kernel_rfl)) ?_)); clear hK K)); (first | show AWP _ _ _ _ _ | ((try simp only [z7]); first | show loopQ _ _ _ _ _ _ | show cutQ _ _ _ _ | show AWP _ _ _ _ _))) | ((first | refine q8 [] rfl ?_ | refine z8 [] rfl ?_); simp (maxSteps := 2000000) (disch := omega) only [go_sem, seval, hd, cb, atD, x3]; (repeat (first | refine ⟨by omega, ?_⟩ | refine ⟨True.intro, ?_⟩)))))
    refine awp_slot 2 _ (.p (.d (.sl 4 7 (rowC (p.take 7))))) rfl (le_sl rfl (fun i hi => by simpa using rt i hi)) ?_
    refine q10 ⟨_, ?_, rfl⟩; rw [Tryz.results10]; simp (disch := omega) only [ResVars, ResVar, ptrLoc, go_sem, seval, hd, cb, atD, x3]
  · rw [List.take_of_length_le (by omega)]
    refine z10 Tryz.func10 rfl (by decide +kernel) (by rw [Tryz.ntmps10]; simp) ?_; rw [Tryz.ntmps10]; simp only [frOf]
    (repeat (first | refine j0 ?_ | refine x7 rfl ?_ | refine j7 rfl ?_ | refine z6 ?_ | (refine q4 fun K hK => ?_) | (refine x4 (by kernel_rfl) (by kernel_rfl) fun K hK => ?_) | ((first | refine q6 ?_ | refine x6 ?_ | ((first | refine q5 (hK _ ?_) | refine x5 (hK _ _ (j4 (by kernel_rfl)) ?_)); clear hK K)); (first | show AWP _ _ _ _ _ | ((try simp only [z7]); first | show loopQ _ _ _ _ _ _ | show cutQ _ _ _ _ | show AWP _ _ _ _ _))) | ((first | refine q8 [] rfl ?_ | refine z8 [] rfl ?_); simp (maxSteps := 2000000) (disch := omega) only [go_sem, seval, hd, cb, atD, x3]; (repeat (first | refine ⟨by omega, ?_⟩ | refine ⟨True.intro, ?_⟩)))))
    refine q10 ⟨_, ?_, rfl⟩; rw [Tryz.results10]; simp (disch := omega) only [ResVars, ResVar, ptrLoc, go_sem, seval, hd, cb, atD, x3]
def inI (p : List Cube) (h : BitVec 128) (s : {s : Nat × List Int // s.1 ≤ p.length ∧ s.2 = inZ (p.take s.1) h ∧ s.2.length ≤ s.1}) : ASt :=
  ⟨[(6, .p (.d (.v (.int .i64 (s.val.1 : Int))))), (5, .gr 9 s.val.2.length 1 s.val.2.length (rowZ s.val.2)), (3, .p (.d (.bx (hd h)))), (0, .p (.d (.sl 4 p.length (rowC p))))], [(9, .grow 3 1 s.val.2.length s.val.2.length)]⟩
set_option maxRecDepth 100000 in
set_option maxHeartbeats 2000000 in
theorem in_c (p : List Cube) (h : BitVec 128) (hl : p.length ≤ 1048576) : ACalls Tryz.prog 15 [.d (.sl 4 p.length (rowC p)), .agg (hd h)] (· = [.d (.sl 1 (inZ p h).length (rowZ (inZ p h)))]) := by
  refine z10 Tryz.func15 rfl (by decide +kernel) (by rw [Tryz.ntmps15]; simp) ?_; rw [Tryz.ntmps15]; simp only [frOf]
  (repeat (first | refine j0 ?_ | refine x7 rfl ?_ | refine j7 rfl ?_ | refine z6 ?_ | (refine q4 fun K hK => ?_) | (refine x4 (by kernel_rfl) (by kernel_rfl) fun K hK => ?_) | ((first | refine q6 ?_ | refine x6 ?_ | ((first | refine q5 (hK _ ?_) | refine x5 (hK _ _ (j4 (by kernel_rfl)) ?_)); clear hK K)); (first | show AWP _ _ _ _ _ | ((try simp only [z7]); first | show loopQ _ _ _ _ _ _ | show cutQ _ _ _ _ | show AWP _ _ _ _ _))) | ((first | refine q8 [9] rfl ?_ | refine z8 [9] rfl ?_); simp (maxSteps := 2000000) (disch := omega) only [go_sem, seval, hd, cb, atD, x3]; (repeat (first | refine ⟨by omega, ?_⟩ | refine ⟨True.intro, ?_⟩)))))
  refine awp_loop (inI p h) (fun s => p.length - s.val.1) ⟨(0, []), by omega, rfl, by simp⟩ ?_ (fun s => ?_)
  · unfold inI
    refine Weak.list ?_ ?_; (all_goals simp (disch := omega) only [AllF, AllL, j10, le_top, x10, exists_eq_left', Option.some.injEq, go_sem, seval, hd, cb, atD, x3]); (all_goals (repeat' (with_reducible apply And.intro))); (all_goals try (first | exact x8 rfl | (refine le_int ?_; omega) | (refine x8 ?_; simp; done)))
    exact le_grgr rfl rfl (fun i hi => by simp at hi)
  obtain ⟨⟨i, out⟩, hi', h1, h2⟩ := s
  simp only [] at hi' h1 h2
  unfold inI
  simp only []
  by_cases hn : i < p.length
  · have r1 := rowC_at p i
    have e : inZ (p.take (i + 1)) h = inZ (p.take i) h ++ if hasC (p.getD i ⟨0, 0⟩) h then [(i : Int)] else [] := by
      rw [take_succ_getD p i ⟨0, 0⟩ hn, inZ_snoc]
      rw [List.length_take, Nat.min_eq_left (by omega)]
    generalize p.getD i ⟨0, 0⟩ = k at r1 e
    have tx := Text_c k
    have ht := Hast_c k h
    cases hs : k.sound
    · rw [hs] at tx
      simp only [Bool.false_eq_true, if_false] at tx
      have hc : hasC k h = false := by unfold hasC; rw [hs]; rfl
      rw [hc] at e
      simp only [Bool.false_eq_true, if_false, List.append_nil] at e
      (repeat (first | refine j0 ?_ | refine x7 rfl ?_ | refine j7 rfl ?_ | refine z6 ?_ | (refine q4 fun K hK => ?_) | (refine x4 (by kernel_rfl) (by kernel_rfl) fun K hK => ?_) | ((first | refine q6 ?_ | refine x6 ?_ | ((first | refine q5 (hK _ ?_) | refine x5 (hK _ _ (j4 (by kernel_rfl)) ?_)); clear hK K)); (first | show AWP _ _ _ _ _ | ((try simp only [z7]); first | show loopQ _ _ _ _ _ _ | show cutQ _ _ _ _ | show AWP _ _ _ _ _))) | ((first | refine x9 rfl rfl rfl ?_ | refine j9 rfl rfl rfl ?_); simp (maxSteps := 2000000) (disch := omega) only [go_sem, seval, hd, cb, atD, x3, r1]; (first | refine ⟨_, tx, ?_⟩)) | ((first | refine q8 [9] rfl ?_ | refine z8 [9] rfl ?_); simp (maxSteps := 2000000) (disch := omega) only [go_sem, seval, hd, cb, atD, x3, r1]; (repeat (first | refine ⟨by omega, ?_⟩ | refine ⟨True.intro, ?_⟩)))))
      refine ⟨⟨(i + 1, out), by simp only []; omega, by simp only []; rw [e]; exact h1, by simp only []; omega⟩, by simp only []; omega, ?_⟩
      refine Weak.list ?_ ?_; (all_goals simp (disch := omega) only [AllF, AllL, j10, le_top, x10, exists_eq_left', Option.some.injEq, go_sem, seval, hd, cb, atD, x3, r1]); (all_goals (repeat' (with_reducible apply And.intro))); (all_goals try (first | exact x8 rfl | (refine le_int ?_; omega) | (refine x8 ?_; simp; done)))
    · rw [hs] at tx
      simp only [if_true] at tx
      rw [hasT_sound hs] at ht
      cases hc : hasC k h
      all_goals
        rw [hc] at e ht
        simp only [Bool.false_eq_true, if_false, if_true, List.append_nil] at e
        (repeat (first | refine j0 ?_ | refine x7 rfl ?_ | refine j7 rfl ?_ | refine z6 ?_ | (refine q4 fun K hK => ?_) | (refine x4 (by kernel_rfl) (by kernel_rfl) fun K hK => ?_) | ((first | refine q6 ?_ | refine x6 ?_ | ((first | refine q5 (hK _ ?_) | refine x5 (hK _ _ (j4 (by kernel_rfl)) ?_)); clear hK K)); (first | show AWP _ _ _ _ _ | ((try simp only [z7]); first | show loopQ _ _ _ _ _ _ | show cutQ _ _ _ _ | show AWP _ _ _ _ _))) | ((first | refine x9 rfl rfl rfl ?_ | refine j9 rfl rfl rfl ?_); simp (maxSteps := 2000000) (disch := omega) only [go_sem, seval, hd, cb, atD, x3, r1]; (first | refine ⟨_, tx, ?_⟩ | refine ⟨_, ht, ?_⟩)) | ((first | refine q8 [9] rfl ?_ | refine z8 [9] rfl ?_); simp (maxSteps := 2000000) (disch := omega) only [go_sem, seval, hd, cb, atD, x3, r1]; (repeat (first | refine ⟨by omega, ?_⟩ | refine ⟨True.intro, ?_⟩)))))
      · refine ⟨⟨(i + 1, out), by simp only []; omega, by simp only []; rw [e]; exact h1, by simp only []; omega⟩, by simp only []; omega, ?_⟩
        refine Weak.list ?_ ?_; (all_goals simp (disch := omega) only [AllF, AllL, j10, le_top, x10, exists_eq_left', Option.some.injEq, go_sem, seval, hd, cb, atD, x3, r1]); (all_goals (repeat' (with_reducible apply And.intro))); (all_goals try (first | exact x8 rfl | (refine le_int ?_; omega) | (refine x8 ?_; simp; done)))
      · refine ⟨⟨(i + 1, out ++ [(i : Int)]), by simp only []; omega, by simp only []; rw [e, ← h1], by simp only [List.length_append, List.length_cons, List.length_nil]; omega⟩, by simp only []; omega, ?_⟩
        refine Weak.list ?_ ?_; (all_goals simp (disch := omega) only [AllF, AllL, j10, le_top, x10, exists_eq_left', Option.some.injEq, go_sem, seval, hd, cb, atD, x3, r1]); (all_goals (repeat' (with_reducible apply And.intro))); (all_goals try (first | exact x8 rfl | (refine le_int ?_; omega) | (refine x8 ?_; simp; done)))
        · exact le_grgr (by simp) (by simp) (fun j hj => rowZ_put out (i : Int) j hj)
        · exact lle_grow (by simp) (by simp)
  · have : i = p.length := by omega
    subst this
    rw [List.take_length] at h1
    subst h1
    (repeat (first | refine j0 ?_ | refine x7 rfl ?_ | refine j7 rfl ?_ | refine z6 ?_ | (refine q4 fun K hK => ?_) | (refine x4 (by kernel_rfl) (by kernel_rfl) fun K hK => ?_) | ((first | refine q6 ?_ | refine x6 ?_ | ((first | refine q5 (hK _ ?_) | refine x5 (hK _ _ (j4 (by kernel_rfl)) ?_)); clear hK K)); (first | show AWP _ _ _ _ _ | ((try simp only [z7]); first | show loopQ _ _ _ _ _ _ | show cutQ _ _ _ _ | show AWP _ _ _ _ _))) | ((first | refine q8 [9] rfl ?_ | refine z8 [9] rfl ?_); simp (maxSteps := 2000000) (disch := omega) only [go_sem, seval, hd, cb, atD, x3]; (repeat (first | refine ⟨by omega, ?_⟩ | refine ⟨True.intro, ?_⟩)))))
    refine awp_slot 4 _ (.p (.d (.sl 1 (inZ p h).length (rowZ (inZ p h))))) rfl (le_gr rfl (fun _ _ => rfl)) ?_
    refine q10 ⟨_, ?_, rfl⟩; rw [Tryz.results15]; simp (disch := omega) only [ResVars, ResVar, ptrLoc, go_sem, seval, hd, cb, atD, x3]
theorem eqI_rf : ∀ l : List Int, eqI l l = true
  | [] => rfl
  | x :: l => by simp [eqI, eqI_rf l]
def rightI (l : List Atm) (h : BitVec 128) (want : List Int) (j : Nat) (i : Fin (l.length + 1)) : ASt :=
  ⟨[(8, .p (.d (.v (.int .i64 (i.val : Int))))), (7, .p (.d (.v (.int .i64 (if j < i.val then 1 else 0))))), (4, .p (.d (.bx (hd h)))), (2, .p (.d (.sl 1 want.length (rowZ want)))), (0, .p (.d (.sl 4 l.length (rowAt l))))], []⟩
def rightJ (l : List Atm) (h : BitVec 128) (want : List Int) (n : Int) (i : Nat) (k : Fin (i + 1)) : ASt :=
  ⟨[(11, .p (.d (.v (.int .i64 (k.val : Int))))), (8, .p (.d (.v (.int .i64 (i : Int))))), (7, .p (.d (.v (.int .i64 n)))), (4, .p (.d (.bx (hd h)))), (2, .p (.d (.sl 1 want.length (rowZ want)))), (0, .p (.d (.sl 4 l.length (rowAt l))))], []⟩
set_option maxRecDepth 100000 in
set_option maxHeartbeats 8000000 in
theorem rightA_c (l : List Atm) (f : BitVec 128 → List Int) (h : BitVec 128) (want : List Int) (hA : AtOK l f) (hw : f h = want) (hl : smallA l) (hwl : want.length ≤ 1048576) :
    ACalls Tryz.prog 14 [.d (.sl 4 l.length (rowAt l)), .agg (hd h), .d (.sl 1 want.length (rowZ want))] (· = [.d (.v (.bool true))]) := by
  obtain ⟨j, hj1, hj2, hj3⟩ := hA.find h
  clear hj1
  have hhas : ∀ i, i < l.length → hasP (l.getD i at0).p h = decide (i = j) := fun i hi => by
    by_cases e : i = j
    · subst e; rw [hj3]; simp
    · rw [decide_eq_false e]
      cases hc : hasP (l.getD i at0).p h
      · rfl
      · exact absurd (hA.one hi hj2 hc hj3 rfl) e
  have hids : (l.getD j at0).ids = want := by rw [hA.ids _ (getD_in hj2 at0) h hj3, hw]
  have hdis : ∀ i k, k < i → i < l.length → ((l.getD i at0).ids == (l.getD k at0).ids) = false := fun i k hk hi => by
    rw [beq_eq_false_iff_ne]
    have := List.pairwise_iff_getElem.1 hA.dis k i (by omega) hi hk
    rw [List.getD_eq_getElem?_getD, List.getD_eq_getElem?_getD, List.getElem?_eq_getElem hi, List.getElem?_eq_getElem (show k < l.length by omega)]
    exact fun e => this e.symm
  obtain ⟨l1, l2⟩ := hl
  refine z10 Tryz.func14 rfl (by decide +kernel) (by rw [Tryz.ntmps14]; simp) ?_; rw [Tryz.ntmps14]; simp only [frOf]
  (repeat (first | refine j0 ?_ | refine x7 rfl ?_ | refine j7 rfl ?_ | refine z6 ?_ | (refine q4 fun K hK => ?_) | (refine x4 (by kernel_rfl) (by kernel_rfl) fun K hK => ?_) | ((first | refine q6 ?_ | refine x6 ?_ | ((first | refine q5 (hK _ ?_) | refine x5 (hK _ _ (j4 (by kernel_rfl)) ?_)); clear hK K)); (first | show AWP _ _ _ _ _ | ((try simp only [z7]); first | show loopQ _ _ _ _ _ _ | show cutQ _ _ _ _ | show AWP _ _ _ _ _))) | ((first | refine q8 [] rfl ?_ | refine z8 [] rfl ?_); simp (maxSteps := 2000000) (disch := omega) only [go_sem, seval, hd, cb, atD, x3]; (repeat (first | refine ⟨by omega, ?_⟩ | refine ⟨True.intro, ?_⟩)))))
  refine awp_loop (rightI l h want j) (fun s => l.length - s.val) ⟨0, by omega⟩ ?_ (fun s => ?_)
  · unfold rightI
    refine Weak.list ?_ ?_; (all_goals simp (disch := omega) only [AllF, AllL, j10, le_top, x10, exists_eq_left', Option.some.injEq, go_sem, seval, hd, cb, atD, x3]); (all_goals (repeat' (with_reducible apply And.intro))); (all_goals try (first | exact x8 rfl | (refine le_int ?_; omega) | (refine x8 ?_; simp; done)))
  obtain ⟨i, hi9⟩ := s
  unfold rightI
  simp only []
  by_cases hn : i < l.length
  · have r1 := rowAt_at l i
    obtain ⟨b1, b2⟩ := l2 _ (getD_in hn at0)
    have ok := hA.atm _ (getD_in hn at0)
    have hh := hhas i hn
    have hd' := hdis i
    have hij : i = j → (l.getD i at0).ids = want := fun e => by rw [e]; exact hids
    generalize l.getD i at0 = a at r1 b1 b2 ok hh hd' hij
    have hself := ok.has
    obtain ⟨⟨snd, len, _⟩, ne, e0⟩ := ok
    obtain ⟨ids, h0, p⟩ := a
    simp only [] at *
    have hp0 : 0 < p.length := by
      cases p with
      | nil => exact absurd rfl ne
      | cons => simp
    have r2 := rowC_at p 0
    have sk := snd _ (getD_in hp0 ⟨0, 0⟩)
    have c1 := HasR_c p h0 (by omega)
    have c5 := HasR_c p h (by omega)
    rw [hself] at c1
    generalize p.getD 0 ⟨0, 0⟩ = k at r2 sk e0
    subst e0
    have c2 := Text_c k
    rw [sk, if_pos rfl] at c2
    have c3 := Hast_c k k.v
    rw [hasT_sound sk, has_self sk] at c3
    have q1 : ((p.length : Int) == 0) = false := ieq_ff (by omega)
    have q2 : eqI [hi k.v, lo k.v] [hi k.v, lo k.v] = true := eqI_rf _
    have c6 := Ints_c ids want (by omega) (by omega)
    by_cases hji : i = j
    · subst hji
      rw [hh, decide_eq_true rfl] at c5
      rw [hij rfl, beq_self_eq_true] at c6
      rw [hij rfl] at r1
      have hd2 := hd' 
      rw [hij rfl] at hd2
      rw [if_neg (Nat.lt_irrefl i)]
      (repeat (first | refine j0 ?_ | refine x7 rfl ?_ | refine j7 rfl ?_ | refine z6 ?_ | (refine q4 fun K hK => ?_) | (refine x4 (by kernel_rfl) (by kernel_rfl) fun K hK => ?_) | ((first | refine q6 ?_ | refine x6 ?_ | ((first | refine q5 (hK _ ?_) | refine x5 (hK _ _ (j4 (by kernel_rfl)) ?_)); clear hK K)); (first | show AWP _ _ _ _ _ | ((try simp only [z7]); first | show loopQ _ _ _ _ _ _ | show cutQ _ _ _ _ | show AWP _ _ _ _ _))) | ((first | refine x9 rfl rfl rfl ?_ | refine j9 rfl rfl rfl ?_); simp (maxSteps := 2000000) (disch := omega) only [go_sem, seval, hd, cb, atD, x3, r1, r2, q1, q2]; (first | refine ⟨_, c1, ?_⟩ | refine ⟨_, c2, ?_⟩ | refine ⟨_, c3, ?_⟩ | refine ⟨_, c5, ?_⟩ | refine ⟨_, c6, ?_⟩)) | ((first | refine q8 [] rfl ?_ | refine z8 [] rfl ?_); simp (maxSteps := 2000000) (disch := omega) only [go_sem, seval, hd, cb, atD, x3, r1, r2, q1, q2]; (repeat (first | refine ⟨by omega, ?_⟩ | refine ⟨True.intro, ?_⟩)))))
      refine awp_loop (rightJ l h want 1 i) (fun s => i - s.val) ⟨0, by omega⟩ ?_ (fun s => ?_)
      · unfold rightJ
        refine Weak.list ?_ ?_; (all_goals simp (disch := omega) only [AllF, AllL, j10, le_top, x10, exists_eq_left', Option.some.injEq, go_sem, seval, hd, cb, atD, x3, r1, r2, q1, q2]); (all_goals (repeat' (with_reducible apply And.intro))); (all_goals try (first | exact x8 rfl | (refine le_int ?_; omega) | (refine x8 ?_; simp; done)))
      obtain ⟨m, hm9⟩ := s
      unfold rightJ
      simp only []
      by_cases hm : m < i
      · have r3 := rowAt_at l m
        have dd := hd2 m hm hn
        obtain ⟨d1, d2⟩ := l2 _ (getD_in (show m < l.length by omega) at0)
        generalize l.getD m at0 = b at r3 dd d1 d2
        have c7 := Ints_c want b.ids (by omega) (by omega)
        rw [dd] at c7
        (repeat (first | refine j0 ?_ | refine x7 rfl ?_ | refine j7 rfl ?_ | refine z6 ?_ | (refine q4 fun K hK => ?_) | (refine x4 (by kernel_rfl) (by kernel_rfl) fun K hK => ?_) | ((first | refine q6 ?_ | refine x6 ?_ | ((first | refine q5 (hK _ ?_) | refine x5 (hK _ _ (j4 (by kernel_rfl)) ?_)); clear hK K)); (first | show AWP _ _ _ _ _ | ((try simp only [z7]); first | show loopQ _ _ _ _ _ _ | show cutQ _ _ _ _ | show AWP _ _ _ _ _))) | ((first | refine x9 rfl rfl rfl ?_ | refine j9 rfl rfl rfl ?_); simp (maxSteps := 2000000) (disch := omega) only [go_sem, seval, hd, cb, atD, x3, r1, r3]; (first | refine ⟨_, c7, ?_⟩)) | ((first | refine q8 [] rfl ?_ | refine z8 [] rfl ?_); simp (maxSteps := 2000000) (disch := omega) only [go_sem, seval, hd, cb, atD, x3, r1, r3]; (repeat (first | refine ⟨by omega, ?_⟩ | refine ⟨True.intro, ?_⟩)))))
        refine ⟨⟨m + 1, by omega⟩, by simp only []; omega, ?_⟩
        refine Weak.list ?_ ?_; (all_goals simp (disch := omega) only [AllF, AllL, j10, le_top, x10, exists_eq_left', Option.some.injEq, go_sem, seval, hd, cb, atD, x3, r1, r3]); (all_goals (repeat' (with_reducible apply And.intro))); (all_goals try (first | exact x8 rfl | (refine le_int ?_; omega) | (refine x8 ?_; simp; done)))
      · have : m = i := by omega
        subst this
        (repeat (first | refine j0 ?_ | refine x7 rfl ?_ | refine j7 rfl ?_ | refine z6 ?_ | (refine q4 fun K hK => ?_) | (refine x4 (by kernel_rfl) (by kernel_rfl) fun K hK => ?_) | ((first | refine q6 ?_ | refine x6 ?_ | ((first | refine q5 (hK _ ?_) | refine x5 (hK _ _ (j4 (by kernel_rfl)) ?_)); clear hK K)); (first | show AWP _ _ _ _ _ | ((try simp only [z7]); first | show loopQ _ _ _ _ _ _ | show cutQ _ _ _ _ | show AWP _ _ _ _ _))) | ((first | refine q8 [] rfl ?_ | refine z8 [] rfl ?_); simp (maxSteps := 2000000) (disch := omega) only [go_sem, seval, hd, cb, atD, x3, r1]; (repeat (first | refine ⟨by omega, ?_⟩ | refine ⟨True.intro, ?_⟩)))))
        refine ⟨⟨m + 1, by omega⟩, by simp only []; omega, ?_⟩
        have e2 : (if m < m + 1 then (1 : Int) else 0) = 1 := by rw [if_pos (by omega)]
        simp only [e2]
        refine Weak.list ?_ ?_; (all_goals simp (disch := omega) only [AllF, AllL, j10, le_top, x10, exists_eq_left', Option.some.injEq, go_sem, seval, hd, cb, atD, x3, r1]); (all_goals (repeat' (with_reducible apply And.intro))); (all_goals try (first | exact x8 rfl | (refine le_int ?_; omega) | (refine x8 ?_; simp; done)))
    · rw [hh, decide_eq_false hji] at c5
      obtain ⟨n, hnn⟩ : ∃ n : Int, (if j < i then (1 : Int) else 0) = n := ⟨_, rfl⟩
      rw [hnn]
      (repeat (first | refine j0 ?_ | refine x7 rfl ?_ | refine j7 rfl ?_ | refine z6 ?_ | (refine q4 fun K hK => ?_) | (refine x4 (by kernel_rfl) (by kernel_rfl) fun K hK => ?_) | ((first | refine q6 ?_ | refine x6 ?_ | ((first | refine q5 (hK _ ?_) | refine x5 (hK _ _ (j4 (by kernel_rfl)) ?_)); clear hK K)); (first | show AWP _ _ _ _ _ | ((try simp only [z7]); first | show loopQ _ _ _ _ _ _ | show cutQ _ _ _ _ | show AWP _ _ _ _ _))) | ((first | refine x9 rfl rfl rfl ?_ | refine j9 rfl rfl rfl ?_); simp (maxSteps := 2000000) (disch := omega) only [go_sem, seval, hd, cb, atD, x3, r1, r2, q1, q2]; (first | refine ⟨_, c1, ?_⟩ | refine ⟨_, c2, ?_⟩ | refine ⟨_, c3, ?_⟩ | refine ⟨_, c5, ?_⟩)) | ((first | refine q8 [] rfl ?_ | refine z8 [] rfl ?_); simp (maxSteps := 2000000) (disch := omega) only [go_sem, seval, hd, cb, atD, x3, r1, r2, q1, q2]; (repeat (first | refine ⟨by omega, ?_⟩ | refine ⟨True.intro, ?_⟩)))))
      refine awp_loop (rightJ l h want n i) (fun s => i - s.val) ⟨0, by omega⟩ ?_ (fun s => ?_)
      · unfold rightJ
        refine Weak.list ?_ ?_; (all_goals simp (disch := omega) only [AllF, AllL, j10, le_top, x10, exists_eq_left', Option.some.injEq, go_sem, seval, hd, cb, atD, x3, r1, r2, q1, q2]); (all_goals (repeat' (with_reducible apply And.intro))); (all_goals try (first | exact x8 rfl | (refine le_int ?_; omega) | (refine x8 ?_; simp; done)))
      obtain ⟨m, hm9⟩ := s
      unfold rightJ
      simp only []
      by_cases hm : m < i
      · have r3 := rowAt_at l m
        have dd := hd' m hm hn
        obtain ⟨d1, d2⟩ := l2 _ (getD_in (show m < l.length by omega) at0)
        generalize l.getD m at0 = b at r3 dd d1 d2
        have c7 := Ints_c ids b.ids (by omega) (by omega)
        rw [dd] at c7
        (repeat (first | refine j0 ?_ | refine x7 rfl ?_ | refine j7 rfl ?_ | refine z6 ?_ | (refine q4 fun K hK => ?_) | (refine x4 (by kernel_rfl) (by kernel_rfl) fun K hK => ?_) | ((first | refine q6 ?_ | refine x6 ?_ | ((first | refine q5 (hK _ ?_) | refine x5 (hK _ _ (j4 (by kernel_rfl)) ?_)); clear hK K)); (first | show AWP _ _ _ _ _ | ((try simp only [z7]); first | show loopQ _ _ _ _ _ _ | show cutQ _ _ _ _ | show AWP _ _ _ _ _))) | ((first | refine x9 rfl rfl rfl ?_ | refine j9 rfl rfl rfl ?_); simp (maxSteps := 2000000) (disch := omega) only [go_sem, seval, hd, cb, atD, x3, r1, r3]; (first | refine ⟨_, c7, ?_⟩)) | ((first | refine q8 [] rfl ?_ | refine z8 [] rfl ?_); simp (maxSteps := 2000000) (disch := omega) only [go_sem, seval, hd, cb, atD, x3, r1, r3]; (repeat (first | refine ⟨by omega, ?_⟩ | refine ⟨True.intro, ?_⟩)))))
        refine ⟨⟨m + 1, by omega⟩, by simp only []; omega, ?_⟩
        refine Weak.list ?_ ?_; (all_goals simp (disch := omega) only [AllF, AllL, j10, le_top, x10, exists_eq_left', Option.some.injEq, go_sem, seval, hd, cb, atD, x3, r1, r3]); (all_goals (repeat' (with_reducible apply And.intro))); (all_goals try (first | exact x8 rfl | (refine le_int ?_; omega) | (refine x8 ?_; simp; done)))
      · have : m = i := by omega
        subst this
        (repeat (first | refine j0 ?_ | refine x7 rfl ?_ | refine j7 rfl ?_ | refine z6 ?_ | (refine q4 fun K hK => ?_) | (refine x4 (by kernel_rfl) (by kernel_rfl) fun K hK => ?_) | ((first | refine q6 ?_ | refine x6 ?_ | ((first | refine q5 (hK _ ?_) | refine x5 (hK _ _ (j4 (by kernel_rfl)) ?_)); clear hK K)); (first | show AWP _ _ _ _ _ | ((try simp only [z7]); first | show loopQ _ _ _ _ _ _ | show cutQ _ _ _ _ | show AWP _ _ _ _ _))) | ((first | refine q8 [] rfl ?_ | refine z8 [] rfl ?_); simp (maxSteps := 2000000) (disch := omega) only [go_sem, seval, hd, cb, atD, x3, r1]; (repeat (first | refine ⟨by omega, ?_⟩ | refine ⟨True.intro, ?_⟩)))))
        refine ⟨⟨m + 1, by omega⟩, by simp only []; omega, ?_⟩
        have e2 : (if j < m + 1 then (1 : Int) else 0) = n := by
          rw [← hnn]
          by_cases hjm : j < m
          · rw [if_pos hjm, if_pos (by omega)]
          · rw [if_neg hjm, if_neg (by omega)]
        simp only [e2]
        refine Weak.list ?_ ?_; (all_goals simp (disch := omega) only [AllF, AllL, j10, le_top, x10, exists_eq_left', Option.some.injEq, go_sem, seval, hd, cb, atD, x3, r1]); (all_goals (repeat' (with_reducible apply And.intro))); (all_goals try (first | exact x8 rfl | (refine le_int ?_; omega) | (refine x8 ?_; simp; done)))
  · have : i = l.length := by omega
    subst this
    rw [if_pos hj2]
    (repeat (first | refine j0 ?_ | refine x7 rfl ?_ | refine j7 rfl ?_ | refine z6 ?_ | (refine q4 fun K hK => ?_) | (refine x4 (by kernel_rfl) (by kernel_rfl) fun K hK => ?_) | ((first | refine q6 ?_ | refine x6 ?_ | ((first | refine q5 (hK _ ?_) | refine x5 (hK _ _ (j4 (by kernel_rfl)) ?_)); clear hK K)); (first | show AWP _ _ _ _ _ | ((try simp only [z7]); first | show loopQ _ _ _ _ _ _ | show cutQ _ _ _ _ | show AWP _ _ _ _ _))) | ((first | refine q8 [] rfl ?_ | refine z8 [] rfl ?_); simp (maxSteps := 2000000) (disch := omega) only [go_sem, seval, hd, cb, atD, x3]; (repeat (first | refine ⟨by omega, ?_⟩ | refine ⟨True.intro, ?_⟩)))))
    refine q10 ⟨_, ?_, rfl⟩; rw [Tryz.results14]; simp (disch := omega) only [ResVars, ResVar, ptrLoc, go_sem, seval, hd, cb, atD, x3]
end Go.Proofs.YtemcdefpihkfpaaGreat
set_option linter.unusedSimpArgs false
set_option linter.unusedVariables false
namespace Go.Proofs.YtemcdefpihkfpaaGreat
open Go Go.Proofs.YtemcdefpihkfpaaGreat.AL
theorem splitAll_small : ∀ (r : List Cube) (n : Nat) (out : List Atm), out.length ≤ 600 → (∀ a ∈ out, a.ids.length ≤ n ∧ a.p.length ≤ 200) → (splitAll r n out).1.length ≤ 600 ∧ ∀ a ∈ (splitAll r n out).1, a.ids.length ≤ n + r.length ∧ a.p.length ≤ 200
  | [], n, out, h1, h2 => by unfold splitAll; exact ⟨h1, fun a ha => by have := h2 a ha; simp; omega⟩
  | k :: r, n, out, h1, h2 => by
    unfold splitAll
    split
    · simp
    · have ih := splitAll_small r (n + 1) (splitL (n : Int) k out []).1 (splitL_len _ _ _ _) (splitL_small out [] (fun a ha => (h2 a ha).1) (by simp))
      refine ⟨ih.1, fun a ha => ?_⟩
      have := ih.2 a ha
      simp only [List.length_cons]; omega
theorem splitV_small (p : List Cube) (hp : p.length ≤ 500) : smallA (splitV p).1 ∧ (splitV p).1.length ≤ 600 := by
  unfold splitV
  rw [if_neg (show ¬ 500 < p.length by omega)]
  split
  · have := splitAll_small p 0 [⟨[], 0, [⟨0, 0⟩]⟩] (by simp) (by simp)
    exact ⟨⟨by omega, fun a ha => by have := this.2 a ha; omega⟩, this.1⟩
  · exact ⟨⟨by simp, by simp⟩, by simp⟩
def pAw : List Cube := [⟨1, 1⟩, ⟨2, 2⟩]
theorem aw_a : (splitV pAw).2 = 0 ∧ (splitV pAw).1.length = 4 ∧ ((splitV pAw).1.getD 0 at0).ids.length = 2 := by decide +kernel
theorem aw_b : (coarseV (splitV pAw).1 0).2 = 0 ∧ (coarseV (splitV pAw).1 0).1.length = 2 := by decide +kernel
theorem aw_c : findA (splitV pAw).1 3 = 0 ∧ (ofTo (splitV pAw).1 1 (splitV pAw).1.length).length = 2 := by decide +kernel
set_option maxRecDepth 100000 in
set_option maxHeartbeats 2000000 in
theorem awake11_c : ACalls Tryz.prog 13 [] (· = [.d (.v (.bool true))]) := by
  have k1 := Split_c pAw (by decide)
  obtain ⟨sm, _⟩ := splitV_small pAw (by decide)
  obtain ⟨a1, a2, a3⟩ := aw_a
  obtain ⟨b1, b2⟩ := aw_b
  obtain ⟨c1, c2⟩ := aw_c
  generalize splitV pAw = q at *
  obtain ⟨L, e⟩ := q
  simp only [] at *
  subst a1
  have k2 := Coarsen_c L 0 sm
  rw [b1, b2] at k2
  have k3 := FindA_c L 3 sm
  rw [c1] at k3
  have k4 := OfA_c L 1 sm
  rw [c2] at k4
  rw [show max (0 : Int) 0 = 0 by decide, show decide ((0 : Int) ≥ 0) = true by decide] at k3
  have r0 := rowAt_at L 0
  generalize L.getD 0 at0 = a at r0 a3
  have k1 : ACalls Tryz.prog 12 [.d (.sl 4 2 fun i => [[Dat.v (.int .u64 0), .v (.int .u64 1), .v (.int .u64 0), .v (.int .u64 1)], [Dat.v (.int .u64 0), .v (.int .u64 2), .v (.int .u64 0), .v (.int .u64 2)]].getD i [])] (· = [.d (.sl 4 L.length (rowAt L)), .d (.v (.int .i64 0))]) :=
    acalls_le (.cons (ple_sl rfl fun i (hi' : i < 2) => by
      have : i = 0 ∨ i = 1 := by omega
      rcases this with rfl | rfl
      · show _ = cb ⟨1, 1⟩
        unfold cb
        simp only [show hi 1 = 0 by decide, show lo 1 = 1 by decide]; rfl
      · show _ = cb ⟨2, 2⟩
        unfold cb
        simp only [show hi 2 = 0 by decide, show lo 2 = 2 by decide]; rfl) .nil) k1
  unfold hd at k3
  rw [show hi 3 = 0 by decide, show lo 3 = 3 by decide] at k3
  rw [a2] at k1 k2 k3 k4
  unfold atD at r0
  rw [a3] at r0
  refine z10 Tryz.func13 rfl (by decide +kernel) (by rw [Tryz.ntmps13]; simp) ?_; rw [Tryz.ntmps13]; simp only [frOf]
  (repeat (first | refine j0 ?_ | refine x7 rfl ?_ | refine j7 rfl ?_ | refine z6 ?_ | (refine q4 fun K hK => ?_) | (refine x4 (by kernel_rfl) (by kernel_rfl) fun K hK => ?_) | ((first | refine q6 ?_ | refine x6 ?_ | ((first | refine q5 (hK _ ?_) | refine x5 (hK _ _ (j4 (by kernel_rfl)) ?_)); clear hK K)); (first | show AWP _ _ _ _ _ | ((try simp only [z7]); first | show loopQ _ _ _ _ _ _ | show cutQ _ _ _ _ | show AWP _ _ _ _ _))) | ((first | refine x9 rfl rfl rfl ?_ | refine j9 rfl rfl rfl ?_); simp (maxSteps := 2000000) (disch := omega) only [go_sem, seval, hd, cb, atD, x3, r0]; (first | refine ⟨_, k1, ?_⟩ | refine ⟨_, k2, ?_⟩ | refine ⟨_, k3, ?_⟩ | refine ⟨_, k4, ?_⟩)) | ((first | refine q8 [] rfl ?_ | refine z8 [] rfl ?_); simp (maxSteps := 2000000) (disch := omega) only [go_sem, seval, hd, cb, atD, x3, r0]; (repeat (first | refine ⟨by omega, ?_⟩ | refine ⟨True.intro, ?_⟩)))))
  refine q10 ⟨_, ?_, rfl⟩; rw [Tryz.results13]; simp (disch := omega) only [ResVars, ResVar, ptrLoc, go_sem, seval, hd, cb, atD, x3, r0]
def occTo (ids : List Int) (id : Int) (i : Nat) (k : Nat) : List Int := ((ids.take k).filter fun x => x == id).map fun _ => (i : Int)
theorem occ_succ (ids : List Int) (id : Int) (i k : Nat) (hk : k < ids.length) : occTo ids id i (k + 1) = occTo ids id i k ++ if ids.getD k 0 == id then [(i : Int)] else [] := by
  unfold occTo
  rw [take_succ_getD ids k 0 hk, List.filter_append, List.map_append]
  congr 1
  rw [List.filter_cons]
  split <;> rfl
theorem occ_len (ids : List Int) (id : Int) (i k : Nat) : (occTo ids id i k).length ≤ k := by
  unfold occTo
  rw [List.length_map]
  exact Nat.le_trans (List.length_filter_le _ _) (by simp; omega)
theorem inc_filter_one : ∀ {l : List Int}, Inc l → ∀ id, l.filter (fun x => x == id) = if l.contains id then [id] else []
  | [], _, id => rfl
  | x :: l, h, id => by
    have h2 := (List.pairwise_cons.1 h)
    have ih := inc_filter_one (l := l) h2.2 id
    rw [List.filter_cons, List.contains_cons]
    by_cases e : x = id
    · subst e
      have hn : l.contains x = false := by
        cases hc : l.contains x
        · rfl
        · have := h2.1 x (by simpa using hc); omega
      rw [hn] at ih
      simp only [beq_self_eq_true, if_true, Bool.true_or]
      rw [ih]; rfl
    · have e1 : (x == id) = false := by simpa using e
      have e2 : (id == x) = false := by simpa using fun h => e h.symm
      rw [e1, e2, Bool.false_or]
      exact ih
theorem occ_all {ids : List Int} (h : Inc ids) (id : Int) (i : Nat) : occTo ids id i ids.length = if ids.contains id then [(i : Int)] else [] := by
  unfold occTo
  rw [List.take_length, inc_filter_one h]
  split <;> rfl
def spA (p : List Cube) (l : List Atm) (i : Fin (p.length + 2)) : ASt :=
  ⟨[(11, .p (.d (.v (.int .i64 (i.val : Int))))), (7, .p (.d (.sl 4 l.length (rowAt l)))), (0, .p (.d (.sl 4 p.length (rowC p))))], []⟩
def spB (p : List Cube) (l : List Atm) (id : Nat) (s : {s : Nat × List Int × Nat // s.1 ≤ l.length ∧ s.2.1 = ofTo l id s.1}) : ASt :=
  ⟨[(13, .p (.d (.v (.int .i64 (s.val.1 : Int))))), (12, .gr 100 s.val.2.2 1 s.val.2.1.length (rowZ s.val.2.1)), (11, .p (.d (.v (.int .i64 (id : Int))))), (7, .p (.d (.sl 4 l.length (rowAt l)))), (0, .p (.d (.sl 4 p.length (rowC p))))],
   [(100, .grow 3 1 s.val.2.1.length s.val.2.2)]⟩
def spC (p : List Cube) (l : List Atm) (id i : Nat) (ids W : List Int) (s : {s : Nat × List Int × Nat // s.1 ≤ ids.length ∧ s.2.1 = W ++ occTo ids id i s.1}) : ASt :=
  ⟨[(14, .p (.d (.v (.int .i64 (s.val.1 : Int))))), (13, .p (.d (.v (.int .i64 (i : Int))))), (12, .gr 100 s.val.2.2 1 s.val.2.1.length (rowZ s.val.2.1)), (11, .p (.d (.v (.int .i64 (id : Int))))), (7, .p (.d (.sl 4 l.length (rowAt l)))), (0, .p (.d (.sl 4 p.length (rowC p))))],
   [(100, .grow 3 1 s.val.2.1.length s.val.2.2)]⟩
theorem take_snd {p : List Cube} {n : Nat} : (p.take n).length ≤ n := by simp; omega
theorem soundP_take (p : List Cube) (hp : p.length ≤ 200) : soundP p = p.all Cube.sound := by
  unfold soundP; rw [decide_eq_true hp, Bool.true_and]
set_option maxRecDepth 100000 in
set_option maxHeartbeats 8000000 in
theorem AtomsSplit_c (p0 : List Cube) (h : BitVec 128) (hp0 : p0.length ≤ 1099511627776) : ACalls Tryz.prog 3 [.d (.sl 4 p0.length (rowC p0)), .agg (hd h)] (· = [.d (.v (.bool true))]) := by
  have fw := few11_c p0 hp0
  have hp7 : (p0.take 7).length ≤ 7 := take_snd
  generalize p0.take 7 = p at fw hp7
  have tx := Texts_c p (by omega)
  have sp := Split_c p (by omega)
  obtain ⟨sm, sl⟩ := splitV_small p (by omega)
  have er := splitV_err p (by omega)
  rw [soundP_take p (by omega)] at tx
  cases hs : p.all Cube.sound
  · rw [hs] at er tx
    simp only [Bool.false_eq_true, if_false] at er
    obtain ⟨e1, e2⟩ := er
    rw [e1, e2] at sp
    simp only [List.length_nil] at sp
    refine z10 Tryz.func3 rfl (by decide +kernel) (by rw [Tryz.ntmps3]; simp) ?_; rw [Tryz.ntmps3]; simp only [frOf]
    (repeat (first | refine j0 ?_ | refine x7 rfl ?_ | refine j7 rfl ?_ | refine z6 ?_ | (refine q4 fun K hK => ?_) | (refine x4 (by kernel_rfl) (by kernel_rfl) fun K hK => ?_) | ((first | refine q6 ?_ | refine x6 ?_ | ((first | refine q5 (hK _ ?_) | refine x5 (hK _ _ (j4 (by kernel_rfl)) ?_)); clear hK K)); (first | show AWP _ _ _ _ _ | ((try simp only [z7]); first | show loopQ _ _ _ _ _ _ | show cutQ _ _ _ _ | show AWP _ _ _ _ _))) | ((first | refine x9 rfl rfl rfl ?_ | refine j9 rfl rfl rfl ?_); simp (maxSteps := 2000000) (disch := omega) only [go_sem, seval, hd, cb, atD, x3]; (first | refine ⟨_, fw, ?_⟩ | refine ⟨_, tx, ?_⟩ | refine ⟨_, sp, ?_⟩ | refine ⟨_, awake11_c, ?_⟩)) | ((first | refine q8 [100] rfl ?_ | refine z8 [100] rfl ?_); simp (maxSteps := 2000000) (disch := omega) only [go_sem, seval, hd, cb, atD, x3]; (repeat (first | refine ⟨by omega, ?_⟩ | refine ⟨True.intro, ?_⟩)))))
    refine q10 ⟨_, ?_, rfl⟩; rw [Tryz.results3]; simp (disch := omega) only [ResVars, ResVar, ptrLoc, go_sem, seval, hd, cb, atD, x3]
  rw [hs] at er tx
  simp only [if_true] at er
  by_cases he : (splitV p).2 = 0
  · obtain ⟨-, hA⟩ := splitV_ok he
    rw [he] at sp
    clear er he
    generalize (splitV p).1 = l at *
    have ic := in_c p h (by omega)
    have hwl : (inZ p h).length ≤ 1048576 := by
      unfold inZ
      rw [List.length_map]
      have := List.length_filter_le (fun i => hasC (p.getD i ⟨0, 0⟩) h) (List.range p.length)
      rw [List.length_range] at this; omega
    have rc := rightA_c l (inZ p) h (inZ p h) hA rfl sm hwl
    obtain ⟨j, f1, f2, f3⟩ := hA.find h
    have fa := FindA_c l h sm
    rw [f1, show max (j : Int) 0 = j by omega, show decide ((j : Int) ≥ 0) = true by simp] at fa
    have r1 := rowAt_at l j
    have hb := (sm.2 _ (getD_in f2 at0)).2
    have hr := HasR_c (l.getD j at0).p h (by omega)
    rw [f3] at hr
    have hinc : ∀ i, i < l.length → Inc (l.getD i at0).ids := fun i hi' => by
      have ha := getD_in hi' at0
      rw [hA.ids _ ha _ (hA.atm _ ha).has]
      exact inZ_inc _ _
    clear hA f1 f3
    generalize l.getD j at0 = a at r1 hb hr
    have l1 := sm.1
    refine z10 Tryz.func3 rfl (by decide +kernel) (by rw [Tryz.ntmps3]; simp) ?_; rw [Tryz.ntmps3]; simp only [frOf]
    (repeat (first | refine j0 ?_ | refine x7 rfl ?_ | refine j7 rfl ?_ | refine z6 ?_ | (refine q4 fun K hK => ?_) | (refine x4 (by kernel_rfl) (by kernel_rfl) fun K hK => ?_) | ((first | refine q6 ?_ | refine x6 ?_ | ((first | refine q5 (hK _ ?_) | refine x5 (hK _ _ (j4 (by kernel_rfl)) ?_)); clear hK K)); (first | show AWP _ _ _ _ _ | ((try simp only [z7]); first | show loopQ _ _ _ _ _ _ | show cutQ _ _ _ _ | show AWP _ _ _ _ _))) | ((first | refine x9 rfl rfl rfl ?_ | refine j9 rfl rfl rfl ?_); simp (maxSteps := 2000000) (disch := omega) only [go_sem, seval, hd, cb, atD, x3, r1]; (first | refine ⟨_, fw, ?_⟩ | refine ⟨_, tx, ?_⟩ | refine ⟨_, sp, ?_⟩ | refine ⟨_, awake11_c, ?_⟩ | refine ⟨_, ic, ?_⟩ | refine ⟨_, rc, ?_⟩ | refine ⟨_, fa, ?_⟩ | refine ⟨_, hr, ?_⟩)) | ((first | refine q8 [100] rfl ?_ | refine z8 [100] rfl ?_); simp (maxSteps := 2000000) (disch := omega) only [go_sem, seval, hd, cb, atD, x3, r1]; (repeat (first | refine ⟨by omega, ?_⟩ | refine ⟨True.intro, ?_⟩)))))
    refine awp_loop (spA p l) (fun s => p.length + 1 - s.val) ⟨0, by omega⟩ ?_ (fun s => ?_)
    · unfold spA
      refine Weak.list ?_ ?_; (all_goals simp (disch := omega) only [AllF, AllL, j10, le_top, x10, exists_eq_left', Option.some.injEq, go_sem, seval, hd, cb, atD, x3, r1]); (all_goals (repeat' (with_reducible apply And.intro))); (all_goals try (first | exact x8 rfl | (refine le_int ?_; omega) | (refine x8 ?_; simp; done)))
    obtain ⟨id, hid⟩ := s
    unfold spA
    simp only []
    by_cases hn : id ≤ p.length
    · have oc := OfA_c l id sm
      (repeat (first | refine j0 ?_ | refine x7 rfl ?_ | refine j7 rfl ?_ | refine z6 ?_ | (refine q4 fun K hK => ?_) | (refine x4 (by kernel_rfl) (by kernel_rfl) fun K hK => ?_) | ((first | refine q6 ?_ | refine x6 ?_ | ((first | refine q5 (hK _ ?_) | refine x5 (hK _ _ (j4 (by kernel_rfl)) ?_)); clear hK K)); (first | show AWP _ _ _ _ _ | ((try simp only [z7]); first | show loopQ _ _ _ _ _ _ | show cutQ _ _ _ _ | show AWP _ _ _ _ _))) | ((first | refine q8 [100] rfl ?_ | refine z8 [100] rfl ?_); simp (maxSteps := 2000000) (disch := omega) only [go_sem, seval, hd, cb, atD, x3]; (repeat (first | refine ⟨by omega, ?_⟩ | refine ⟨True.intro, ?_⟩)))))
      refine awp_loop (spB p l id) (fun s => l.length - s.val.1) ⟨(0, [], 0), by omega, rfl⟩ ?_ (fun s => ?_)
      · unfold spB
        refine Weak.list ?_ ?_; (all_goals simp (disch := omega) only [AllF, AllL, j10, le_top, x10, exists_eq_left', Option.some.injEq, go_sem, seval, hd, cb, atD, x3]); (all_goals (repeat' (with_reducible apply And.intro))); (all_goals try (first | exact x8 rfl | (refine le_int ?_; omega) | (refine x8 ?_; simp; done)))
        exact le_grgr rfl rfl (fun i hi' => by simp at hi')
      obtain ⟨⟨i, W, g⟩, hi', h1⟩ := s
      simp only [] at hi' h1
      unfold spB
      simp only []
      by_cases hm : i < l.length
      · have r1 := rowAt_at l i
        obtain ⟨b1, b2⟩ := sm.2 _ (getD_in hm at0)
        have hic := hinc i hm
        have os := ofTo_succ l id i
        have ol := ofTo_len l id i
        rw [← h1] at os ol
        generalize l.getD i at0 = a at r1 b1 b2 hic os
        (repeat (first | refine j0 ?_ | refine x7 rfl ?_ | refine j7 rfl ?_ | refine z6 ?_ | (refine q4 fun K hK => ?_) | (refine x4 (by kernel_rfl) (by kernel_rfl) fun K hK => ?_) | ((first | refine q6 ?_ | refine x6 ?_ | ((first | refine q5 (hK _ ?_) | refine x5 (hK _ _ (j4 (by kernel_rfl)) ?_)); clear hK K)); (first | show AWP _ _ _ _ _ | ((try simp only [z7]); first | show loopQ _ _ _ _ _ _ | show cutQ _ _ _ _ | show AWP _ _ _ _ _))) | ((first | refine q8 [100] rfl ?_ | refine z8 [100] rfl ?_); simp (maxSteps := 2000000) (disch := omega) only [go_sem, seval, hd, cb, atD, x3, r1]; (repeat (first | refine ⟨by omega, ?_⟩ | refine ⟨True.intro, ?_⟩)))))
        refine awp_loop (spC p l id i a.ids W) (fun s => a.ids.length - s.val.1) ⟨(0, W, g), by omega, by simp [occTo]⟩ ?_ (fun s => ?_)
        · unfold spC
          refine Weak.list ?_ ?_; (all_goals simp (disch := omega) only [AllF, AllL, j10, le_top, x10, exists_eq_left', Option.some.injEq, go_sem, seval, hd, cb, atD, x3, r1]); (all_goals (repeat' (with_reducible apply And.intro))); (all_goals try (first | exact x8 rfl | (refine le_int ?_; omega) | (refine x8 ?_; simp; done)))
        obtain ⟨⟨k, V, g2⟩, hk, h2⟩ := s
        simp only [] at hk h2
        unfold spC
        simp only []
        by_cases ho : k < a.ids.length
        · have r2 := rowZ_at a.ids k
          have ocs := occ_succ a.ids id i k ho
          have ocl := occ_len a.ids id i k
          have hV : V.length ≤ 3000000 := by rw [h2, List.length_append]; omega
          generalize a.ids.getD k 0 = x at r2 ocs
          cases hx : (x == (id : Int))
          all_goals
            rw [hx] at ocs
            simp only [Bool.false_eq_true, if_false, if_true, List.append_nil] at ocs
            (repeat (first | refine j0 ?_ | refine x7 rfl ?_ | refine j7 rfl ?_ | refine z6 ?_ | (refine q4 fun K hK => ?_) | (refine x4 (by kernel_rfl) (by kernel_rfl) fun K hK => ?_) | ((first | refine q6 ?_ | refine x6 ?_ | ((first | refine q5 (hK _ ?_) | refine x5 (hK _ _ (j4 (by kernel_rfl)) ?_)); clear hK K)); (first | show AWP _ _ _ _ _ | ((try simp only [z7]); first | show loopQ _ _ _ _ _ _ | show cutQ _ _ _ _ | show AWP _ _ _ _ _))) | ((first | refine q8 [100] rfl ?_ | refine z8 [100] rfl ?_); simp (maxSteps := 2000000) (disch := omega) only [go_sem, seval, hd, cb, atD, x3, r1, r2, hx]; (repeat (first | refine ⟨by omega, ?_⟩ | refine ⟨True.intro, ?_⟩)))))
          · refine ⟨⟨(k + 1, V, g2), by simp only []; omega, by simp only []; rw [ocs]; exact h2⟩, by simp only []; omega, ?_⟩
            refine Weak.list ?_ ?_; (all_goals simp (disch := omega) only [AllF, AllL, j10, le_top, x10, exists_eq_left', Option.some.injEq, go_sem, seval, hd, cb, atD, x3, r1, r2, hx]); (all_goals (repeat' (with_reducible apply And.intro))); (all_goals try (first | exact x8 rfl | (refine le_int ?_; omega) | (refine x8 ?_; simp; done)))
          · refine ⟨⟨(k + 1, V ++ [(i : Int)], g2 + 1), by simp only []; omega, by simp only []; rw [ocs, h2, List.append_assoc]⟩, by simp only []; omega, ?_⟩
            refine Weak.list ?_ ?_; (all_goals simp (disch := omega) only [AllF, AllL, j10, le_top, x10, exists_eq_left', Option.some.injEq, go_sem, seval, hd, cb, atD, x3, r1, r2, hx]); (all_goals (repeat' (with_reducible apply And.intro))); (all_goals try (first | exact x8 rfl | (refine le_int ?_; omega) | (refine x8 ?_; simp; done)))
            · exact le_grgr rfl (by simp) (fun j hj => rowZ_put V (i : Int) j hj)
            · exact lle_grow (by simp) rfl
        · have : k = a.ids.length := by omega
          subst this
          rw [occ_all hic, ← os] at h2
          (repeat (first | refine j0 ?_ | refine x7 rfl ?_ | refine j7 rfl ?_ | refine z6 ?_ | (refine q4 fun K hK => ?_) | (refine x4 (by kernel_rfl) (by kernel_rfl) fun K hK => ?_) | ((first | refine q6 ?_ | refine x6 ?_ | ((first | refine q5 (hK _ ?_) | refine x5 (hK _ _ (j4 (by kernel_rfl)) ?_)); clear hK K)); (first | show AWP _ _ _ _ _ | ((try simp only [z7]); first | show loopQ _ _ _ _ _ _ | show cutQ _ _ _ _ | show AWP _ _ _ _ _))) | ((first | refine q8 [100] rfl ?_ | refine z8 [100] rfl ?_); simp (maxSteps := 2000000) (disch := omega) only [go_sem, seval, hd, cb, atD, x3, r1]; (repeat (first | refine ⟨by omega, ?_⟩ | refine ⟨True.intro, ?_⟩)))))
          refine ⟨⟨(i + 1, V, g2), by simp only []; omega, h2⟩, by simp only []; omega, ?_⟩
          refine Weak.list ?_ ?_; (all_goals simp (disch := omega) only [AllF, AllL, j10, le_top, x10, exists_eq_left', Option.some.injEq, go_sem, seval, hd, cb, atD, x3, r1]); (all_goals (repeat' (with_reducible apply And.intro))); (all_goals try (first | exact x8 rfl | (refine le_int ?_; omega) | (refine x8 ?_; simp; done)))
      · have : i = l.length := by omega
        subst this
        subst h1
        have ol := ofTo_len l id l.length
        have ic := Ints_c (ofTo l id l.length) (ofTo l id l.length) (by omega) (by omega)
        rw [beq_self_eq_true] at ic
        (repeat ((fail_if_success (show AWP _ _ (.region 25 _ _) _ _)); first | refine j0 ?_ | refine x7 rfl ?_ | refine j7 rfl ?_ | refine z6 ?_ | (refine q4 fun K hK => ?_) | (refine x4 (by kernel_rfl) (by kernel_rfl) fun K hK => ?_) | ((first | refine q6 ?_ | refine x6 ?_ | ((first | refine q5 (hK _ ?_) | refine x5 (hK _ _ (j4 (by kernel_rfl)) ?_)); clear hK K)); (first | show AWP _ _ _ _ _ | ((try simp only [z7]); first | show loopQ _ _ _ _ _ _ | show cutQ _ _ _ _ | show AWP _ _ _ _ _))) | ((first | refine q8 [100] rfl ?_ | refine z8 [100] rfl ?_); simp (maxSteps := 2000000) (disch := omega) only [go_sem, seval, hd, cb, atD, x3]; (repeat (first | refine ⟨by omega, ?_⟩ | refine ⟨True.intro, ?_⟩)))))
        refine awp_slot 12 _ (.p (.d (.sl 1 (ofTo l id l.length).length (rowZ (ofTo l id l.length))))) rfl (le_gr rfl (fun _ _ => rfl)) ?_
        (repeat (first | refine j0 ?_ | refine x7 rfl ?_ | refine j7 rfl ?_ | refine z6 ?_ | (refine q4 fun K hK => ?_) | (refine x4 (by kernel_rfl) (by kernel_rfl) fun K hK => ?_) | ((first | refine q6 ?_ | refine x6 ?_ | ((first | refine q5 (hK _ ?_) | refine x5 (hK _ _ (j4 (by kernel_rfl)) ?_)); clear hK K)); (first | show AWP _ _ _ _ _ | ((try simp only [z7]); first | show loopQ _ _ _ _ _ _ | show cutQ _ _ _ _ | show AWP _ _ _ _ _))) | ((first | refine x9 rfl rfl rfl ?_ | refine j9 rfl rfl rfl ?_); simp (maxSteps := 2000000) (disch := omega) only [go_sem, seval, hd, cb, atD, x3]; (first | refine ⟨_, oc, ?_⟩ | refine ⟨_, ic, ?_⟩)) | ((first | refine q8 [100] rfl ?_ | refine z8 [100] rfl ?_); simp (maxSteps := 2000000) (disch := omega) only [go_sem, seval, hd, cb, atD, x3]; (repeat (first | refine ⟨by omega, ?_⟩ | refine ⟨True.intro, ?_⟩)))))
        refine ⟨⟨id + 1, by omega⟩, by simp only []; omega, ?_⟩
        refine Weak.list ?_ ?_; (all_goals simp (disch := omega) only [AllF, AllL, j10, le_top, x10, exists_eq_left', Option.some.injEq, go_sem, seval, hd, cb, atD, x3]); (all_goals (repeat' (with_reducible apply And.intro))); (all_goals try (first | exact x8 rfl | (refine le_int ?_; omega) | (refine x8 ?_; simp; done)))
    · (repeat (first | refine j0 ?_ | refine x7 rfl ?_ | refine j7 rfl ?_ | refine z6 ?_ | (refine q4 fun K hK => ?_) | (refine x4 (by kernel_rfl) (by kernel_rfl) fun K hK => ?_) | ((first | refine q6 ?_ | refine x6 ?_ | ((first | refine q5 (hK _ ?_) | refine x5 (hK _ _ (j4 (by kernel_rfl)) ?_)); clear hK K)); (first | show AWP _ _ _ _ _ | ((try simp only [z7]); first | show loopQ _ _ _ _ _ _ | show cutQ _ _ _ _ | show AWP _ _ _ _ _))) | ((first | refine q8 [100] rfl ?_ | refine z8 [100] rfl ?_); simp (maxSteps := 2000000) (disch := omega) only [go_sem, seval, hd, cb, atD, x3]; (repeat (first | refine ⟨by omega, ?_⟩ | refine ⟨True.intro, ?_⟩)))))
      refine q10 ⟨_, ?_, rfl⟩; rw [Tryz.results3]; simp (disch := omega) only [ResVars, ResVar, ptrLoc, go_sem, seval, hd, cb, atD, x3]
  · obtain ⟨e, e2⟩ := er.resolve_left he
    rw [e2] at sp
    simp only [List.length_nil] at sp
    rcases e with e | e
    all_goals
      rw [e] at sp
      refine z10 Tryz.func3 rfl (by decide +kernel) (by rw [Tryz.ntmps3]; simp) ?_; rw [Tryz.ntmps3]; simp only [frOf]
      (repeat (first | refine j0 ?_ | refine x7 rfl ?_ | refine j7 rfl ?_ | refine z6 ?_ | (refine q4 fun K hK => ?_) | (refine x4 (by kernel_rfl) (by kernel_rfl) fun K hK => ?_) | ((first | refine q6 ?_ | refine x6 ?_ | ((first | refine q5 (hK _ ?_) | refine x5 (hK _ _ (j4 (by kernel_rfl)) ?_)); clear hK K)); (first | show AWP _ _ _ _ _ | ((try simp only [z7]); first | show loopQ _ _ _ _ _ _ | show cutQ _ _ _ _ | show AWP _ _ _ _ _))) | ((first | refine x9 rfl rfl rfl ?_ | refine j9 rfl rfl rfl ?_); simp (maxSteps := 2000000) (disch := omega) only [go_sem, seval, hd, cb, atD, x3]; (first | refine ⟨_, fw, ?_⟩ | refine ⟨_, tx, ?_⟩ | refine ⟨_, sp, ?_⟩ | refine ⟨_, awake11_c, ?_⟩)) | ((first | refine q8 [100] rfl ?_ | refine z8 [100] rfl ?_); simp (maxSteps := 2000000) (disch := omega) only [go_sem, seval, hd, cb, atD, x3]; (repeat (first | refine ⟨by omega, ?_⟩ | refine ⟨True.intro, ?_⟩)))))
      refine q10 ⟨_, ?_, rfl⟩; rw [Tryz.results3]; simp (disch := omega) only [ResVars, ResVar, ptrLoc, go_sem, seval, hd, cb, atD, x3]
end Go.Proofs.YtemcdefpihkfpaaGreat
