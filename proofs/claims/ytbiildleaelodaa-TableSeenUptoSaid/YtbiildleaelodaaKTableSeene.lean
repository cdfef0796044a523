/- Part 5 of a proof: lemmas beneath the theorem that the last text bears. Conditions: none. -/
import Derived.Test.YtbiildleaelodaaKTableSeend
set_option linter.unusedSimpArgs false
set_option linter.unusedVariables false
namespace Go.Proofs.Ytbiildleaelodaa
open Go.Proofs.Ytbiildleaelodaa.AL
def meetT (a b : Cube) : Cube := ⟨(a.v &&& a.c) ||| (b.v &&& b.c), a.c ||| b.c⟩
theorem apart_iff (a b : Cube) : (apart a b == 0) = true ↔ ∀ i, i < 128 → a.c.getLsbD i = true → b.c.getLsbD i = true → a.v.getLsbD i = b.v.getLsbD i := by
  unfold apart
  rw [beq_iff_eq]
  constructor
  · intro h i hlt ha hb
    have := congrArg (fun z => z.getLsbD i) h
    simp only [BitVec.getLsbD_and, BitVec.getLsbD_xor, ha, hb, Bool.and_self, Bool.and_true, BitVec.getLsbD_zero] at this
    simpa using this
  · intro h
    apply BitVec.eq_of_getLsbD_eq
    intro i hlt
    have := h i hlt
    simp only [BitVec.getLsbD_and, BitVec.getLsbD_xor, BitVec.getLsbD_zero]
    cases ha : a.c.getLsbD i <;> cases hb : b.c.getLsbD i <;> simp
    simpa using this ha hb
theorem meetT_b {a b : Cube} {n : Nat} (h : a.c.getLsbD n = false) : chI (meetT a b) n = chI b n := by
  simp only [chI, meetT, BitVec.getLsbD_or, BitVec.getLsbD_and, h, Bool.and_false, Bool.false_or]
  cases b.c.getLsbD n <;> simp
theorem meetT_a {a b : Cube} {n : Nat} (h : a.c.getLsbD n = true) (h2 : b.c.getLsbD n = true → a.v.getLsbD n = b.v.getLsbD n) : chI (meetT a b) n = chI a n := by
  simp only [chI, meetT, BitVec.getLsbD_or, BitVec.getLsbD_and, h, Bool.and_true, Bool.true_or, if_true]
  cases hb : b.c.getLsbD n
  · simp
  · have := h2 hb
    simp [this]
theorem merge_step (a b : Cube) (c : Int) (i j : Nat) (hi : i < 128) (hj : j < 128) (hc : chI (meetT a b) (127 - i) = c) :
    (if j = i then Dat.v (.int .u8 c) else Dat.v (.int .u8 (if j < i then chI (meetT a b) (127 - j) else chI a (127 - j)))) = Dat.v (.int .u8 (if j < i + 1 then chI (meetT a b) (127 - j) else chI a (127 - j))) := by
  by_cases h : j = i
  · subst h; rw [if_pos rfl, if_pos (by omega), hc]
  · rw [if_neg h]
    by_cases h2 : j < i
    · rw [if_pos h2, if_pos (by omega)]
    · rw [if_neg h2, if_neg (by omega)]
theorem merge_stay (a b : Cube) (i j : Nat) (hi : i < 128) (hj : j < 128) (hc : chI (meetT a b) (127 - i) = chI a (127 - i)) :
    Dat.v (.int .u8 (if j < i then chI (meetT a b) (127 - j) else chI a (127 - j))) = Dat.v (.int .u8 (if j < i + 1 then chI (meetT a b) (127 - j) else chI a (127 - j))) := by
  by_cases h : j = i
  · subst h; rw [if_neg (by omega), if_pos (by omega), hc]
  · by_cases h2 : j < i
    · rw [if_pos h2, if_pos (by omega)]
    · rw [if_neg h2, if_neg (by omega)]
def meetI (a b : Cube) (s : {i : Fin 129 // ∀ j, j < i.val → a.c.getLsbD (127 - j) = true → b.c.getLsbD (127 - j) = true → a.v.getLsbD (127 - j) = b.v.getLsbD (127 - j)}) : ASt :=
  ⟨[(7, .p (.d (.v (.int .i64 (s.val.val : Int))))), (6, .row 9 1 0 128), (1, .p (.d (.v (.string (txt b))))), (0, .p (.d (.v (.string (txt a)))))],
   [(9, .arr 5 128 fun j => .v (.int .u8 (if j < s.val.val then chI (meetT a b) (127 - j) else chI a (127 - j))))]⟩
theorem MeetT_c (a b : Cube) : ACalls Try.prog 99 [.d (.v (.string (txt a))), .d (.v (.string (txt b)))] (· = [.d (.v (.string (if apart a b == 0 then txt (meetT a b) else ⟨#[]⟩))), .d (.v (.bool (apart a b == 0)))]) := by
  have sz := txt_size a
  have sb := txt_size b
  refine q11 Try.func99 rfl (by decide +kernel) (by rw [Try.ntmps99]; simp) ?_; rw [Try.ntmps99]; simp only [frOf]
  (repeat (first | refine j0 ?_ | refine j6 rfl ?_ | refine q7 rfl ?_ | refine q6 ?_ | (refine z2 fun K hK => ?_) | (refine x3 (by kernel_rfl) (by kernel_rfl) fun K hK => ?_) | ((first | refine x5 ?_ | refine j5 ?_ | ((first | refine z1 (hK _ ?_) | refine j4 (hK _ _ (x4 (by kernel_rfl)) ?_)); clear hK K)); (first | show AWP _ _ _ _ _ | ((try simp only [j7]); first | show loopQ _ _ _ _ _ _ | show cutQ _ _ _ _ | show AWP _ _ _ _ _))) | ((first | refine z7 [] rfl ?_ | refine x7 [] rfl ?_); simp (maxSteps := 2000000) (disch := omega) only [go_sem, ↓reduceIte, reduceCtorEq, Nat.reduceLT, Nat.reducePow, Nat.reduceLeDiff, Nat.reduceAdd, Nat.reduceMul, Nat.reduceSub, Nat.reduceEqDiff, Nat.reduceBEq, Int.reduceToNat, Int.reduceBEq, Int.reduceBNe, hd, cb, sz, sb]; (repeat (first | refine ⟨by omega, ?_⟩ | refine ⟨True.intro, ?_⟩)))))
  refine awp_loop (meetI a b) (fun s => 128 - s.val.val) ⟨⟨0, by omega⟩, fun j hj => by simp at hj⟩ ?_ (fun s => ?_)
  · unfold meetI
    refine Weak.list ?_ ?_; (all_goals simp (disch := omega) only [AllF, AllL, j9, q10, q9, exists_eq_left', Option.some.injEq, go_sem, ↓reduceIte, reduceCtorEq, Nat.reduceLT, Nat.reducePow, Nat.reduceLeDiff, Nat.reduceAdd, Nat.reduceMul, Nat.reduceSub, Nat.reduceEqDiff, Nat.reduceBEq, Int.reduceToNat, Int.reduceBEq, Int.reduceBNe, hd, cb, sz, sb]); (all_goals (repeat' (with_reducible apply And.intro))); (all_goals try (first | exact q5 rfl | (refine z10 ?_; omega) | (refine q5 ?_; simp; done)))
    exact ⟨rfl, rfl, fun j hj => by
      have := txt_at a j hj
      simp only [this]
      simp⟩
  obtain ⟨⟨i, hi9⟩, hs⟩ := s
  unfold meetI
  simp only [] at hs
  by_cases hn : i < 128
  · have ai := txt_at a i hn
    have bi := txt_at b i hn
    cases hac : a.c.getLsbD (127 - i)
    · have mg : chI (meetT a b) (127 - i) = chI b (127 - i) := meetT_b hac
      rw [show chI a (127 - i) = 120 from by simp [chI, hac]] at ai
      (repeat (first | refine j0 ?_ | refine j6 rfl ?_ | refine q7 rfl ?_ | refine q6 ?_ | (refine z2 fun K hK => ?_) | (refine x3 (by kernel_rfl) (by kernel_rfl) fun K hK => ?_) | ((first | refine x5 ?_ | refine j5 ?_ | ((first | refine z1 (hK _ ?_) | refine j4 (hK _ _ (x4 (by kernel_rfl)) ?_)); clear hK K)); (first | show AWP _ _ _ _ _ | ((try simp only [j7]); first | show loopQ _ _ _ _ _ _ | show cutQ _ _ _ _ | show AWP _ _ _ _ _))) | ((first | refine z7 [] rfl ?_ | refine x7 [] rfl ?_); simp (maxSteps := 2000000) (disch := omega) only [go_sem, ↓reduceIte, reduceCtorEq, Nat.reduceLT, Nat.reducePow, Nat.reduceLeDiff, Nat.reduceAdd, Nat.reduceMul, Nat.reduceSub, Nat.reduceEqDiff, Nat.reduceBEq, Int.reduceToNat, Int.reduceBEq, Int.reduceBNe, hd, cb, sz, sb, ai, bi]; (repeat (first | refine ⟨by omega, ?_⟩ | refine ⟨True.intro, ?_⟩)))))
      refine ⟨⟨⟨i + 1, by omega⟩, fun j hj h1 h2 => ?_⟩, by simp only []; omega, ?_⟩
      · by_cases e : j = i
        · subst e; rw [hac] at h1; cases h1
        · exact hs j (by simp at hj; omega) h1 h2
      refine Weak.list ?_ ?_; (all_goals simp (disch := omega) only [AllF, AllL, j9, q10, q9, exists_eq_left', Option.some.injEq, go_sem, ↓reduceIte, reduceCtorEq, Nat.reduceLT, Nat.reducePow, Nat.reduceLeDiff, Nat.reduceAdd, Nat.reduceMul, Nat.reduceSub, Nat.reduceEqDiff, Nat.reduceBEq, Int.reduceToNat, Int.reduceBEq, Int.reduceBNe, hd, cb, sz, sb, ai, bi]); (all_goals (repeat' (with_reducible apply And.intro))); (all_goals try (first | exact q5 rfl | (refine z10 ?_; omega) | (refine q5 ?_; simp; done)))
      exact ⟨rfl, rfl, fun j hj => merge_step a b _ i j hn hj mg⟩
    · cases hbc : b.c.getLsbD (127 - i)
      · have mg : chI (meetT a b) (127 - i) = chI a (127 - i) := meetT_a hac (fun h => by rw [hbc] at h; cases h)
        rw [show chI b (127 - i) = 120 from by simp [chI, hbc]] at bi
        cases hav : a.v.getLsbD (127 - i)
        · rw [show chI a (127 - i) = 48 from by simp [chI, hac, hav]] at ai
          (repeat (first | refine j0 ?_ | refine j6 rfl ?_ | refine q7 rfl ?_ | refine q6 ?_ | (refine z2 fun K hK => ?_) | (refine x3 (by kernel_rfl) (by kernel_rfl) fun K hK => ?_) | ((first | refine x5 ?_ | refine j5 ?_ | ((first | refine z1 (hK _ ?_) | refine j4 (hK _ _ (x4 (by kernel_rfl)) ?_)); clear hK K)); (first | show AWP _ _ _ _ _ | ((try simp only [j7]); first | show loopQ _ _ _ _ _ _ | show cutQ _ _ _ _ | show AWP _ _ _ _ _))) | ((first | refine z7 [] rfl ?_ | refine x7 [] rfl ?_); simp (maxSteps := 2000000) (disch := omega) only [go_sem, ↓reduceIte, reduceCtorEq, Nat.reduceLT, Nat.reducePow, Nat.reduceLeDiff, Nat.reduceAdd, Nat.reduceMul, Nat.reduceSub, Nat.reduceEqDiff, Nat.reduceBEq, Int.reduceToNat, Int.reduceBEq, Int.reduceBNe, hd, cb, sz, sb, ai, bi]; (repeat (first | refine ⟨by omega, ?_⟩ | refine ⟨True.intro, ?_⟩)))))
          refine ⟨⟨⟨i + 1, by omega⟩, fun j hj h1 h2 => ?_⟩, by simp only []; omega, ?_⟩
          · by_cases e : j = i
            · subst e; rw [hbc] at h2; cases h2
            · exact hs j (by simp at hj; omega) h1 h2
          refine Weak.list ?_ ?_; (all_goals simp (disch := omega) only [AllF, AllL, j9, q10, q9, exists_eq_left', Option.some.injEq, go_sem, ↓reduceIte, reduceCtorEq, Nat.reduceLT, Nat.reducePow, Nat.reduceLeDiff, Nat.reduceAdd, Nat.reduceMul, Nat.reduceSub, Nat.reduceEqDiff, Nat.reduceBEq, Int.reduceToNat, Int.reduceBEq, Int.reduceBNe, hd, cb, sz, sb, ai, bi]); (all_goals (repeat' (with_reducible apply And.intro))); (all_goals try (first | exact q5 rfl | (refine z10 ?_; omega) | (refine q5 ?_; simp; done)))
          exact ⟨rfl, rfl, fun j hj => merge_stay a b i j hn hj mg⟩
        · rw [show chI a (127 - i) = 49 from by simp [chI, hac, hav]] at ai
          (repeat (first | refine j0 ?_ | refine j6 rfl ?_ | refine q7 rfl ?_ | refine q6 ?_ | (refine z2 fun K hK => ?_) | (refine x3 (by kernel_rfl) (by kernel_rfl) fun K hK => ?_) | ((first | refine x5 ?_ | refine j5 ?_ | ((first | refine z1 (hK _ ?_) | refine j4 (hK _ _ (x4 (by kernel_rfl)) ?_)); clear hK K)); (first | show AWP _ _ _ _ _ | ((try simp only [j7]); first | show loopQ _ _ _ _ _ _ | show cutQ _ _ _ _ | show AWP _ _ _ _ _))) | ((first | refine z7 [] rfl ?_ | refine x7 [] rfl ?_); simp (maxSteps := 2000000) (disch := omega) only [go_sem, ↓reduceIte, reduceCtorEq, Nat.reduceLT, Nat.reducePow, Nat.reduceLeDiff, Nat.reduceAdd, Nat.reduceMul, Nat.reduceSub, Nat.reduceEqDiff, Nat.reduceBEq, Int.reduceToNat, Int.reduceBEq, Int.reduceBNe, hd, cb, sz, sb, ai, bi]; (repeat (first | refine ⟨by omega, ?_⟩ | refine ⟨True.intro, ?_⟩)))))
          refine ⟨⟨⟨i + 1, by omega⟩, fun j hj h1 h2 => ?_⟩, by simp only []; omega, ?_⟩
          · by_cases e : j = i
            · subst e; rw [hbc] at h2; cases h2
            · exact hs j (by simp at hj; omega) h1 h2
          refine Weak.list ?_ ?_; (all_goals simp (disch := omega) only [AllF, AllL, j9, q10, q9, exists_eq_left', Option.some.injEq, go_sem, ↓reduceIte, reduceCtorEq, Nat.reduceLT, Nat.reducePow, Nat.reduceLeDiff, Nat.reduceAdd, Nat.reduceMul, Nat.reduceSub, Nat.reduceEqDiff, Nat.reduceBEq, Int.reduceToNat, Int.reduceBEq, Int.reduceBNe, hd, cb, sz, sb, ai, bi]); (all_goals (repeat' (with_reducible apply And.intro))); (all_goals try (first | exact q5 rfl | (refine z10 ?_; omega) | (refine q5 ?_; simp; done)))
          exact ⟨rfl, rfl, fun j hj => merge_stay a b i j hn hj mg⟩
      · cases hav : a.v.getLsbD (127 - i) <;> cases hbv : b.v.getLsbD (127 - i)
        all_goals
          simp only [chI, hac, hav, hbc, hbv, if_true, if_false, Bool.false_eq_true] at ai bi
          (repeat (first | refine j0 ?_ | refine j6 rfl ?_ | refine q7 rfl ?_ | refine q6 ?_ | (refine z2 fun K hK => ?_) | (refine x3 (by kernel_rfl) (by kernel_rfl) fun K hK => ?_) | ((first | refine x5 ?_ | refine j5 ?_ | ((first | refine z1 (hK _ ?_) | refine j4 (hK _ _ (x4 (by kernel_rfl)) ?_)); clear hK K)); (first | show AWP _ _ _ _ _ | ((try simp only [j7]); first | show loopQ _ _ _ _ _ _ | show cutQ _ _ _ _ | show AWP _ _ _ _ _))) | ((first | refine z7 [] rfl ?_ | refine x7 [] rfl ?_); simp (maxSteps := 2000000) (disch := omega) only [go_sem, ↓reduceIte, reduceCtorEq, Nat.reduceLT, Nat.reducePow, Nat.reduceLeDiff, Nat.reduceAdd, Nat.reduceMul, Nat.reduceSub, Nat.reduceEqDiff, Nat.reduceBEq, Int.reduceToNat, Int.reduceBEq, Int.reduceBNe, hd, cb, sz, sb, ai, bi]; (repeat (first | refine ⟨by omega, ?_⟩ | refine ⟨True.intro, ?_⟩)))))
        all_goals first
          | skip
            refine ⟨⟨⟨i + 1, by omega⟩, fun j hj h1 h2 => ?_⟩, by simp only []; omega, ?_⟩
            · by_cases e : j = i
              · subst e; rw [hav, hbv]
              · exact hs j (by simp at hj; omega) h1 h2
            refine Weak.list ?_ ?_; (all_goals simp (disch := omega) only [AllF, AllL, j9, q10, q9, exists_eq_left', Option.some.injEq, go_sem, ↓reduceIte, reduceCtorEq, Nat.reduceLT, Nat.reducePow, Nat.reduceLeDiff, Nat.reduceAdd, Nat.reduceMul, Nat.reduceSub, Nat.reduceEqDiff, Nat.reduceBEq, Int.reduceToNat, Int.reduceBEq, Int.reduceBNe, hd, cb, sz, sb, ai, bi]); (all_goals (repeat' (with_reducible apply And.intro))); (all_goals try (first | exact q5 rfl | (refine z10 ?_; omega) | (refine q5 ?_; simp; done)))
            exact ⟨rfl, rfl, fun j hj => merge_stay a b i j hn hj (meetT_a hac (fun _ => by rw [hav, hbv]))⟩
          | skip
            have hf : (apart a b == 0) = false := by
              cases hf : (apart a b == 0)
              · rfl
              · have := (apart_iff a b).1 hf (127 - i) (by omega) hac hbc
                rw [hav, hbv] at this; cases this
            rw [hf]
            refine x8 ⟨_, ?_, rfl⟩; rw [Try.results99]; simp (disch := omega) only [ResVars, ResVar, ptrLoc, go_sem, ↓reduceIte, reduceCtorEq, Nat.reduceLT, Nat.reducePow, Nat.reduceLeDiff, Nat.reduceAdd, Nat.reduceMul, Nat.reduceSub, Nat.reduceEqDiff, Nat.reduceBEq, Int.reduceToNat, Int.reduceBEq, Int.reduceBNe, hd, cb, sz, sb, ai, bi]
            try rfl
  · have h128 : i = 128 := by omega
    subst h128
    (repeat (first | refine j0 ?_ | refine j6 rfl ?_ | refine q7 rfl ?_ | refine q6 ?_ | (refine z2 fun K hK => ?_) | (refine x3 (by kernel_rfl) (by kernel_rfl) fun K hK => ?_) | ((first | refine x5 ?_ | refine j5 ?_ | ((first | refine z1 (hK _ ?_) | refine j4 (hK _ _ (x4 (by kernel_rfl)) ?_)); clear hK K)); (first | show AWP _ _ _ _ _ | ((try simp only [j7]); first | show loopQ _ _ _ _ _ _ | show cutQ _ _ _ _ | show AWP _ _ _ _ _))) | ((first | refine z7 [] rfl ?_ | refine x7 [] rfl ?_); simp (maxSteps := 2000000) (disch := omega) only [go_sem, ↓reduceIte, reduceCtorEq, Nat.reduceLT, Nat.reducePow, Nat.reduceLeDiff, Nat.reduceAdd, Nat.reduceMul, Nat.reduceSub, Nat.reduceEqDiff, Nat.reduceBEq, Int.reduceToNat, Int.reduceBEq, Int.reduceBNe, hd, cb, sz, sb]; (repeat (first | refine ⟨by omega, ?_⟩ | refine ⟨True.intro, ?_⟩)))))
    have hf : (apart a b == 0) = true := (apart_iff a b).2 fun j hj h1 h2 => by
      have := hs (127 - j) (by omega)
      rw [show 127 - (127 - j) = j from by omega] at this
      exact this h1 h2
    rw [hf]
    refine x8 ⟨_, ?_, rfl⟩; rw [Try.results99]; simp (disch := omega) only [ResVars, ResVar, ptrLoc, go_sem, ↓reduceIte, reduceCtorEq, Nat.reduceLT, Nat.reducePow, Nat.reduceLeDiff, Nat.reduceAdd, Nat.reduceMul, Nat.reduceSub, Nat.reduceEqDiff, Nat.reduceBEq, Int.reduceToNat, Int.reduceBEq, Int.reduceBNe, hd, cb, sz, sb]
    unfold txt
    congr 2
    first | done | exact List.map_congr_left fun j hj => by rw [if_pos (by simpa using hj)]
def withinT (a b : Cube) : Bool := (b.c &&& ~~~a.c == 0) && (apart a b == 0)
theorem withinT_iff (a b : Cube) : withinT a b = true ↔ ∀ i, i < 128 → b.c.getLsbD i = true → a.c.getLsbD i = true ∧ a.v.getLsbD i = b.v.getLsbD i := by
  unfold withinT
  rw [Bool.and_eq_true, apart_iff, beq_iff_eq]
  constructor
  · intro ⟨h, h2⟩ i hlt hb
    have := congrArg (fun z => z.getLsbD i) h
    have e : a.c.getLsbD i = true := by
      simp only [BitVec.getLsbD_and, BitVec.getLsbD_not, hb, hlt, decide_true, Bool.true_and, BitVec.getLsbD_zero] at this
      simpa using this
    exact ⟨e, h2 i hlt e hb⟩
  · intro h
    refine ⟨?_, fun i hlt _ hb => (h i hlt hb).2⟩
    apply BitVec.eq_of_getLsbD_eq
    intro i hlt
    have := h i hlt
    simp only [BitVec.getLsbD_and, BitVec.getLsbD_not, hlt, decide_true, Bool.true_and, BitVec.getLsbD_zero]
    cases hb : b.c.getLsbD i
    · simp
    · rw [(this hb).1]; simp
def withinI (a b : Cube) (s : {i : Fin 129 // ∀ j, j < i.val → b.c.getLsbD (127 - j) = true → a.c.getLsbD (127 - j) = true ∧ a.v.getLsbD (127 - j) = b.v.getLsbD (127 - j)}) : ASt :=
  ⟨[(5, .p (.d (.v (.int .i64 (s.val.val : Int))))), (1, .p (.d (.v (.string (txt b))))), (0, .p (.d (.v (.string (txt a)))))], []⟩
theorem WithinT_c (a b : Cube) : ACalls Try.prog 100 [.d (.v (.string (txt a))), .d (.v (.string (txt b)))] (· = [.d (.v (.bool (withinT a b)))]) := by
  have sz := txt_size a
  have sb := txt_size b
  refine q11 Try.func100 rfl (by decide +kernel) (by rw [Try.ntmps100]; simp) ?_; rw [Try.ntmps100]; simp only [frOf]
  (repeat (first | refine j0 ?_ | refine j6 rfl ?_ | refine q7 rfl ?_ | refine q6 ?_ | (refine z2 fun K hK => ?_) | (refine x3 (by kernel_rfl) (by kernel_rfl) fun K hK => ?_) | ((first | refine x5 ?_ | refine j5 ?_ | ((first | refine z1 (hK _ ?_) | refine j4 (hK _ _ (x4 (by kernel_rfl)) ?_)); clear hK K)); (first | show AWP _ _ _ _ _ | ((try simp only [j7]); first | show loopQ _ _ _ _ _ _ | show cutQ _ _ _ _ | show AWP _ _ _ _ _))) | ((first | refine z7 [] rfl ?_ | refine x7 [] rfl ?_); simp (maxSteps := 2000000) (disch := omega) only [go_sem, ↓reduceIte, reduceCtorEq, Nat.reduceLT, Nat.reducePow, Nat.reduceLeDiff, Nat.reduceAdd, Nat.reduceMul, Nat.reduceSub, Nat.reduceEqDiff, Nat.reduceBEq, Int.reduceToNat, Int.reduceBEq, Int.reduceBNe, hd, cb, sz, sb]; (repeat (first | refine ⟨by omega, ?_⟩ | refine ⟨True.intro, ?_⟩)))))
  refine awp_loop (withinI a b) (fun s => 128 - s.val.val) ⟨⟨0, by omega⟩, fun j hj => by simp at hj⟩ ?_ (fun s => ?_)
  · unfold withinI
    refine Weak.list ?_ ?_; (all_goals simp (disch := omega) only [AllF, AllL, j9, q10, q9, exists_eq_left', Option.some.injEq, go_sem, ↓reduceIte, reduceCtorEq, Nat.reduceLT, Nat.reducePow, Nat.reduceLeDiff, Nat.reduceAdd, Nat.reduceMul, Nat.reduceSub, Nat.reduceEqDiff, Nat.reduceBEq, Int.reduceToNat, Int.reduceBEq, Int.reduceBNe, hd, cb, sz, sb]); (all_goals (repeat' (with_reducible apply And.intro))); (all_goals try (first | exact q5 rfl | (refine z10 ?_; omega) | (refine q5 ?_; simp; done)))
  obtain ⟨⟨i, hi9⟩, hs⟩ := s
  unfold withinI
  simp only [] at hs
  by_cases hn : i < 128
  · have ai := txt_at a i hn
    have bi := txt_at b i hn
    cases hbc : b.c.getLsbD (127 - i) <;> cases hbv : b.v.getLsbD (127 - i) <;> cases hac : a.c.getLsbD (127 - i) <;> cases hav : a.v.getLsbD (127 - i)
    all_goals
      simp only [chI, hac, hav, hbc, hbv, if_true, if_false, Bool.false_eq_true] at ai bi
      (repeat (first | refine j0 ?_ | refine j6 rfl ?_ | refine q7 rfl ?_ | refine q6 ?_ | (refine z2 fun K hK => ?_) | (refine x3 (by kernel_rfl) (by kernel_rfl) fun K hK => ?_) | ((first | refine x5 ?_ | refine j5 ?_ | ((first | refine z1 (hK _ ?_) | refine j4 (hK _ _ (x4 (by kernel_rfl)) ?_)); clear hK K)); (first | show AWP _ _ _ _ _ | ((try simp only [j7]); first | show loopQ _ _ _ _ _ _ | show cutQ _ _ _ _ | show AWP _ _ _ _ _))) | ((first | refine z7 [] rfl ?_ | refine x7 [] rfl ?_); simp (maxSteps := 2000000) (disch := omega) only [go_sem, ↓reduceIte, reduceCtorEq, Nat.reduceLT, Nat.reducePow, Nat.reduceLeDiff, Nat.reduceAdd, Nat.reduceMul, Nat.reduceSub, Nat.reduceEqDiff, Nat.reduceBEq, Int.reduceToNat, Int.reduceBEq, Int.reduceBNe, hd, cb, sz, sb, ai, bi]; (repeat (first | refine ⟨by omega, ?_⟩ | refine ⟨True.intro, ?_⟩)))))
    all_goals first
      | skip
        refine ⟨⟨⟨i + 1, by omega⟩, fun j hj h1 => ?_⟩, by simp only []; omega, ?_⟩
        · by_cases e : j = i
          · subst e; first | (rw [hbc] at h1; cases h1; done) | (rw [hav, hbv, hac]; exact ⟨rfl, rfl⟩)
          · exact hs j (by simp at hj; omega) h1
        refine Weak.list ?_ ?_; (all_goals simp (disch := omega) only [AllF, AllL, j9, q10, q9, exists_eq_left', Option.some.injEq, go_sem, ↓reduceIte, reduceCtorEq, Nat.reduceLT, Nat.reducePow, Nat.reduceLeDiff, Nat.reduceAdd, Nat.reduceMul, Nat.reduceSub, Nat.reduceEqDiff, Nat.reduceBEq, Int.reduceToNat, Int.reduceBEq, Int.reduceBNe, hd, cb, sz, sb, ai, bi]); (all_goals (repeat' (with_reducible apply And.intro))); (all_goals try (first | exact q5 rfl | (refine z10 ?_; omega) | (refine q5 ?_; simp; done)))
      | skip
        have hf : withinT a b = false := by
          cases hf : withinT a b
          · rfl
          · have := (withinT_iff a b).1 hf (127 - i) (by omega) hbc
            rw [hav, hbv, hac] at this; simp at this
        rw [hf]
        refine x8 ⟨_, ?_, rfl⟩; rw [Try.results100]; simp (disch := omega) only [ResVars, ResVar, ptrLoc, go_sem, ↓reduceIte, reduceCtorEq, Nat.reduceLT, Nat.reducePow, Nat.reduceLeDiff, Nat.reduceAdd, Nat.reduceMul, Nat.reduceSub, Nat.reduceEqDiff, Nat.reduceBEq, Int.reduceToNat, Int.reduceBEq, Int.reduceBNe, hd, cb, sz, sb, ai, bi]
        try rfl
  · have h128 : i = 128 := by omega
    subst h128
    (repeat (first | refine j0 ?_ | refine j6 rfl ?_ | refine q7 rfl ?_ | refine q6 ?_ | (refine z2 fun K hK => ?_) | (refine x3 (by kernel_rfl) (by kernel_rfl) fun K hK => ?_) | ((first | refine x5 ?_ | refine j5 ?_ | ((first | refine z1 (hK _ ?_) | refine j4 (hK _ _ (x4 (by kernel_rfl)) ?_)); clear hK K)); (first | show AWP _ _ _ _ _ | ((try simp only [j7]); first | show loopQ _ _ _ _ _ _ | show cutQ _ _ _ _ | show AWP _ _ _ _ _))) | ((first | refine z7 [] rfl ?_ | refine x7 [] rfl ?_); simp (maxSteps := 2000000) (disch := omega) only [go_sem, ↓reduceIte, reduceCtorEq, Nat.reduceLT, Nat.reducePow, Nat.reduceLeDiff, Nat.reduceAdd, Nat.reduceMul, Nat.reduceSub, Nat.reduceEqDiff, Nat.reduceBEq, Int.reduceToNat, Int.reduceBEq, Int.reduceBNe, hd, cb, sz, sb]; (repeat (first | refine ⟨by omega, ?_⟩ | refine ⟨True.intro, ?_⟩)))))
    have hf : withinT a b = true := (withinT_iff a b).2 fun j hj h1 => by
      have := hs (127 - j) (by omega)
      rw [show 127 - (127 - j) = j from by omega] at this
      exact this h1
    rw [hf]
    refine x8 ⟨_, ?_, rfl⟩; rw [Try.results100]; simp (disch := omega) only [ResVars, ResVar, ptrLoc, go_sem, ↓reduceIte, reduceCtorEq, Nat.reduceLT, Nat.reducePow, Nat.reduceLeDiff, Nat.reduceAdd, Nat.reduceMul, Nat.reduceSub, Nat.reduceEqDiff, Nat.reduceBEq, Int.reduceToNat, Int.reduceBEq, Int.reduceBNe, hd, cb, sz, sb]
end Go.Proofs.Ytbiildleaelodaa
set_option linter.unusedSimpArgs false
set_option linter.unusedVariables false
namespace Go.Proofs.Ytbiildleaelodaa
open Go.Proofs.Ytbiildleaelodaa.AL
theorem catF_put {α : Type} (d : α → List Dat) (z : α) (out : List α) (c : α) (f' : Nat → List Dat) (hf : f' 0 = d c) (i : Nat) (hlt : i < out.length + 1) : catF out.length (fun i => d (out.getD i z)) f' i = d ((out ++ [c]).getD i z) := by
  unfold catF
  by_cases h : i < out.length
  · simp only [if_pos h, List.getD_eq_getElem?_getD, List.getElem?_append_left h]
  · have : i = out.length := by omega
    subst this
    simp [hf]
def rowT (l : List Cube) : Nat → List Dat := fun i => [.v (.string (txt (l.getD i ⟨0, 0⟩)))]
theorem one_bit (n j : Nat) (hn : n < 128) (hj : j < 128) : (ones 1 <<< n).getLsbD j = decide (j = n) := by
  rw [BitVec.getLsbD_shiftLeft, show ones 1 = 1#128 from rfl, BitVec.getLsbD_one]
  by_cases h : j = n
  · subst h; simp [hj]
  · by_cases h2 : j < n
    · simp [h, h2]
    · simp [h, h2]; omega
theorem chI_eq {k k' : Cube} {j : Nat} (hc : k.c.getLsbD j = k'.c.getLsbD j) (hv : k.c.getLsbD j = true → k.v.getLsbD j = k'.v.getLsbD j) : chI k j = chI k' j := by
  unfold chI
  rw [← hc]
  split
  · rw [hv ‹_›]
  · rfl
def plus (r b : Cube) (n : Nat) : Cube := ⟨r.v ||| (b.v &&& (ones 1 <<< n)), r.c ||| (ones 1 <<< n)⟩
def other (r b : Cube) (n : Nat) : Cube := ⟨(r.v ||| (b.v &&& (ones 1 <<< n))) ^^^ (ones 1 <<< n), r.c ||| (ones 1 <<< n)⟩
theorem plus_c {r b : Cube} {n j : Nat} (hn : n < 128) (hj : j < 128) : (plus r b n).c.getLsbD j = (r.c.getLsbD j || decide (j = n)) := by
  simp only [plus, BitVec.getLsbD_or, one_bit n j hn hj]
theorem plus_v {r b : Cube} {n j : Nat} (hn : n < 128) (hj : j < 128) : (plus r b n).v.getLsbD j = (r.v.getLsbD j || (b.v.getLsbD j && decide (j = n))) := by
  simp only [plus, BitVec.getLsbD_or, BitVec.getLsbD_and, one_bit n j hn hj]
theorem other_c {r b : Cube} {n j : Nat} (hn : n < 128) (hj : j < 128) : (other r b n).c.getLsbD j = (r.c.getLsbD j || decide (j = n)) := by
  simp only [other, BitVec.getLsbD_or, one_bit n j hn hj]
theorem other_v {r b : Cube} {n j : Nat} (hn : n < 128) (hj : j < 128) : (other r b n).v.getLsbD j = ((r.v.getLsbD j || (b.v.getLsbD j && decide (j = n))) ^^ decide (j = n)) := by
  simp only [other, BitVec.getLsbD_xor, BitVec.getLsbD_or, BitVec.getLsbD_and, one_bit n j hn hj]
theorem lessGo_succ (b : Cube) (more : BitVec 128) (n : Nat) (r : Cube) : lessGo b more (n + 1) r = if more.getLsbD n then other r b n :: lessGo b more n (plus r b n) else lessGo b more n r := rfl
theorem chI_other {r b : Cube} {n j : Nat} (hn : n < 128) (hj : j < 128) (hv : r.v.getLsbD n = false) : chI (other r b n) j = if j = n then (if b.v.getLsbD n then 48 else 49) else chI r j := by
  by_cases h : j = n
  · subst h
    simp only [chI, other_c hn hj, other_v hn hj, hv]
    cases b.v.getLsbD j <;> simp
  · rw [if_neg h]
    exact chI_eq (by rw [other_c hn hj]; simp [h]) (fun _ => by rw [other_v hn hj]; simp [h])
theorem chI_plus {r b : Cube} {n j : Nat} (hn : n < 128) (hj : j < 128) (hv : r.v.getLsbD n = false) : chI (plus r b n) j = if j = n then (if b.v.getLsbD n then 49 else 48) else chI r j := by
  by_cases h : j = n
  · subst h
    simp only [chI, plus_c hn hj, plus_v hn hj, hv]
    cases b.v.getLsbD j <;> simp
  · rw [if_neg h]
    exact chI_eq (by rw [plus_c hn hj]; simp [h]) (fun _ => by rw [plus_v hn hj]; simp [h])
structure LessU where
  i : Nat
  out : List Cube
  r : Cube
def lessTI (a b : Cube) (L : List Cube) (s : {s : LessU // s.i ≤ 128 ∧ s.out.length ≤ s.i ∧ s.out ++ lessGo b (b.c &&& ~~~a.c) (128 - s.i) s.r = L ∧ ∀ j, j < 128 - s.i → s.r.v.getLsbD j = a.v.getLsbD j}) : ASt :=
  ⟨[(9, .p (.d (.v (.int .i64 (s.val.i : Int))))), (8, .row 23 1 0 128), (7, .gr 21 s.val.out.length 1 s.val.out.length (rowT s.val.out)), (1, .p (.d (.v (.string (txt b))))), (0, .p (.d (.v (.string (txt a)))))],
   [(23, .arr 5 128 fun j => .v (.int .u8 (chI s.val.r (127 - j)))), (21, .grow 9 1 s.val.out.length s.val.out.length)]⟩
set_option maxHeartbeats 1000000 in
theorem LessT_c' (a b : Cube) (ha : a.sound = true) (hb : b.sound = true) (L : List Cube) (hL : lessL a b = L) : ACalls Try.prog 69 [.d (.v (.string (txt a))), .d (.v (.string (txt b)))] (· = [.d (.sl 1 L.length (rowT L))]) := by
  have sz := txt_size a
  have sb := txt_size b
  have mt := MeetT_c a b
  have hmo : meetO a b = (apart a b == 0) := by unfold meetO; rw [ha, hb]; rfl
  unfold lessL at hL
  simp only [ha, hb, Bool.and_self, if_true] at hL
  rw [hmo] at hL
  cases h : (apart a b == 0)
  · rw [h] at hL mt
    simp only [Bool.false_eq_true, if_false] at hL mt
    subst hL
    refine q11 Try.func69 rfl (by decide +kernel) (by rw [Try.ntmps69]; simp) ?_; rw [Try.ntmps69]; simp only [frOf]
    (repeat (first | refine j0 ?_ | refine j6 rfl ?_ | refine q7 rfl ?_ | refine q6 ?_ | (refine z2 fun K hK => ?_) | (refine x3 (by kernel_rfl) (by kernel_rfl) fun K hK => ?_) | ((first | refine x5 ?_ | refine j5 ?_ | ((first | refine z1 (hK _ ?_) | refine j4 (hK _ _ (x4 (by kernel_rfl)) ?_)); clear hK K)); (first | show AWP _ _ _ _ _ | ((try simp only [j7]); first | show loopQ _ _ _ _ _ _ | show cutQ _ _ _ _ | show AWP _ _ _ _ _))) | ((first | refine x10 rfl rfl rfl ?_ | refine j10 rfl rfl rfl ?_); simp (maxSteps := 2000000) (disch := omega) only [go_sem, ↓reduceIte, reduceCtorEq, Nat.reduceLT, Nat.reducePow, Nat.reduceLeDiff, Nat.reduceAdd, Nat.reduceMul, Nat.reduceSub, Nat.reduceEqDiff, Nat.reduceBEq, Int.reduceToNat, Int.reduceBEq, Int.reduceBNe, hd, cb, sz, sb, h]; (first | refine ⟨_, mt, ?_⟩)) | ((first | refine z7 [21] rfl ?_ | refine x7 [21] rfl ?_); simp (maxSteps := 2000000) (disch := omega) only [go_sem, ↓reduceIte, reduceCtorEq, Nat.reduceLT, Nat.reducePow, Nat.reduceLeDiff, Nat.reduceAdd, Nat.reduceMul, Nat.reduceSub, Nat.reduceEqDiff, Nat.reduceBEq, Int.reduceToNat, Int.reduceBEq, Int.reduceBNe, hd, cb, sz, sb, h]; (repeat (first | refine ⟨by omega, ?_⟩ | refine ⟨fun _ _ => rfl, ?_⟩)))))
    refine awp_slot 4 _ _ rfl (le_sl (n' := 1) (f' := rowT [a]) rfl (fun i hlt => ?_)) ?_
    · have : i = 0 := by omega
      subst this; rfl
    refine x8 ⟨_, ?_, rfl⟩; rw [Try.results69]; simp (disch := omega) only [ResVars, ResVar, ptrLoc, go_sem, ↓reduceIte, reduceCtorEq, Nat.reduceLT, Nat.reducePow, Nat.reduceLeDiff, Nat.reduceAdd, Nat.reduceMul, Nat.reduceSub, Nat.reduceEqDiff, Nat.reduceBEq, Int.reduceToNat, Int.reduceBEq, Int.reduceBNe, hd, cb, sz, sb, h]
  · rw [h] at hL mt
    simp only [if_true] at hL mt
    refine q11 Try.func69 rfl (by decide +kernel) (by rw [Try.ntmps69]; simp) ?_; rw [Try.ntmps69]; simp only [frOf]
    (repeat (first | refine j0 ?_ | refine j6 rfl ?_ | refine q7 rfl ?_ | refine q6 ?_ | (refine z2 fun K hK => ?_) | (refine x3 (by kernel_rfl) (by kernel_rfl) fun K hK => ?_) | ((first | refine x5 ?_ | refine j5 ?_ | ((first | refine z1 (hK _ ?_) | refine j4 (hK _ _ (x4 (by kernel_rfl)) ?_)); clear hK K)); (first | show AWP _ _ _ _ _ | ((try simp only [j7]); first | show loopQ _ _ _ _ _ _ | show cutQ _ _ _ _ | show AWP _ _ _ _ _))) | ((first | refine x10 rfl rfl rfl ?_ | refine j10 rfl rfl rfl ?_); simp (maxSteps := 2000000) (disch := omega) only [go_sem, ↓reduceIte, reduceCtorEq, Nat.reduceLT, Nat.reducePow, Nat.reduceLeDiff, Nat.reduceAdd, Nat.reduceMul, Nat.reduceSub, Nat.reduceEqDiff, Nat.reduceBEq, Int.reduceToNat, Int.reduceBEq, Int.reduceBNe, hd, cb, sz, sb, h]; (first | refine ⟨_, mt, ?_⟩)) | ((first | refine z7 [21] rfl ?_ | refine x7 [21] rfl ?_); simp (maxSteps := 2000000) (disch := omega) only [go_sem, ↓reduceIte, reduceCtorEq, Nat.reduceLT, Nat.reducePow, Nat.reduceLeDiff, Nat.reduceAdd, Nat.reduceMul, Nat.reduceSub, Nat.reduceEqDiff, Nat.reduceBEq, Int.reduceToNat, Int.reduceBEq, Int.reduceBNe, hd, cb, sz, sb, h]; (repeat (first | refine ⟨by omega, ?_⟩ | refine ⟨fun _ _ => rfl, ?_⟩)))))
    refine awp_loop (lessTI a b L) (fun s => 128 - s.val.i) ⟨⟨0, [], a⟩, by simp, by simp, by rw [List.nil_append]; exact hL, fun j _ => rfl⟩ ?_ (fun s => ?_)
    · unfold lessTI
      refine Weak.list ?_ ?_; (all_goals simp (disch := omega) only [AllF, AllL, j9, q10, q9, exists_eq_left', Option.some.injEq, go_sem, ↓reduceIte, reduceCtorEq, Nat.reduceLT, Nat.reducePow, Nat.reduceLeDiff, Nat.reduceAdd, Nat.reduceMul, Nat.reduceSub, Nat.reduceEqDiff, Nat.reduceBEq, Int.reduceToNat, Int.reduceBEq, Int.reduceBNe, hd, cb, sz, sb, h]); (all_goals (repeat' (with_reducible apply And.intro))); (all_goals try (first | exact q5 rfl | (refine z10 ?_; omega) | (refine q5 ?_; simp; done)))
      · exact le_grgr rfl rfl (fun i hlt => by omega)
      · exact ⟨rfl, rfl, fun j hj => by have := txt_at a j hj; simp only [this]⟩
    obtain ⟨⟨i, out, r⟩, hi, hl, he, hv⟩ := s
    unfold lessTI
    simp only [] at hi hl he hv
    by_cases hn : i < 128
    · have ai := txt_at a i hn
      have bi := txt_at b i hn
      have mb : (b.c &&& ~~~a.c).getLsbD (127 - i) = (b.c.getLsbD (127 - i) && !a.c.getLsbD (127 - i)) := by
        rw [BitVec.getLsbD_and, BitVec.getLsbD_not, decide_eq_true (show 127 - i < 128 from by omega), Bool.true_and]
      rw [show 128 - i = (127 - i) + 1 from by omega, lessGo_succ, mb] at he
      have sn := (sound_iff a).1 ha (127 - i) (by omega)
      have hvn := hv (127 - i) (by omega)
      cases hac : a.c.getLsbD (127 - i) <;> cases hbc : b.c.getLsbD (127 - i)
      rotate_left
      · have hr : r.v.getLsbD (127 - i) = false := by
          rw [hvn]; cases hav : a.v.getLsbD (127 - i)
          · rfl
          · rw [sn hav] at hac; cases hac
        rw [show chI a (127 - i) = 120 from by simp [chI, hac]] at ai
        cases hbv : b.v.getLsbD (127 - i)
        all_goals
          simp only [chI, hbc, hbv, if_true, if_false, Bool.false_eq_true] at bi
          simp only [hac, hbc, Bool.not_false, Bool.and_self, if_true] at he
          (repeat ((fail_if_success (show AWP _ _ (.region 14 _ _) _ _)); first | refine j0 ?_ | refine j6 rfl ?_ | refine q7 rfl ?_ | refine q6 ?_ | (refine z2 fun K hK => ?_) | (refine x3 (by kernel_rfl) (by kernel_rfl) fun K hK => ?_) | ((first | refine x5 ?_ | refine j5 ?_ | ((first | refine z1 (hK _ ?_) | refine j4 (hK _ _ (x4 (by kernel_rfl)) ?_)); clear hK K)); (first | show AWP _ _ _ _ _ | ((try simp only [j7]); first | show loopQ _ _ _ _ _ _ | show cutQ _ _ _ _ | show AWP _ _ _ _ _))) | ((first | refine z7 [21] rfl ?_ | refine x7 [21] rfl ?_); simp (maxSteps := 2000000) (disch := omega) only [go_sem, ↓reduceIte, reduceCtorEq, Nat.reduceLT, Nat.reducePow, Nat.reduceLeDiff, Nat.reduceAdd, Nat.reduceMul, Nat.reduceSub, Nat.reduceEqDiff, Nat.reduceBEq, Int.reduceToNat, Int.reduceBEq, Int.reduceBNe, hd, cb, sz, sb, ai, bi]; (repeat (first | refine ⟨by omega, ?_⟩ | refine ⟨fun _ _ => rfl, ?_⟩)))))
          refine awp_arr 23 (fun j => .v (.int .u8 (chI (other r b (127 - i)) (127 - j)))) rfl (fun j hj => ?_) ?_
          · rw [chI_other (by omega) (by omega) hr, hbv]
            by_cases e : j = i
            · subst e; simp
            · simp [e, show ¬ 127 - j = 127 - i from by omega]
          (repeat (first | refine j0 ?_ | refine j6 rfl ?_ | refine q7 rfl ?_ | refine q6 ?_ | (refine z2 fun K hK => ?_) | (refine x3 (by kernel_rfl) (by kernel_rfl) fun K hK => ?_) | ((first | refine x5 ?_ | refine j5 ?_ | ((first | refine z1 (hK _ ?_) | refine j4 (hK _ _ (x4 (by kernel_rfl)) ?_)); clear hK K)); (first | show AWP _ _ _ _ _ | ((try simp only [j7]); first | show loopQ _ _ _ _ _ _ | show cutQ _ _ _ _ | show AWP _ _ _ _ _))) | ((first | refine z7 [21] rfl ?_ | refine x7 [21] rfl ?_); simp (maxSteps := 2000000) (disch := omega) only [go_sem, ↓reduceIte, reduceCtorEq, Nat.reduceLT, Nat.reducePow, Nat.reduceLeDiff, Nat.reduceAdd, Nat.reduceMul, Nat.reduceSub, Nat.reduceEqDiff, Nat.reduceBEq, Int.reduceToNat, Int.reduceBEq, Int.reduceBNe, hd, cb, sz, sb, ai, bi]; (repeat (first | refine ⟨by omega, ?_⟩ | refine ⟨fun _ _ => rfl, ?_⟩)))))
          refine ⟨⟨⟨i + 1, out ++ [other r b (127 - i)], plus r b (127 - i)⟩, by simp only []; omega, by simp; omega, ?_, fun j hj => ?_⟩, by simp only []; omega, ?_⟩
          · rw [List.append_assoc, show 128 - (i + 1) = 127 - i from by omega]; exact he
          · have hj' : j < 127 - i := by simp only [] at hj; omega
            have hne : ¬ j = 127 - i := by omega
            simp only []
            rw [plus_v (by omega) (by omega), decide_eq_false hne, Bool.and_false, Bool.or_false]
            exact hv j (by omega)
          refine Weak.list ?_ ?_; (all_goals simp (disch := omega) only [AllF, AllL, j9, q10, q9, exists_eq_left', Option.some.injEq, go_sem, ↓reduceIte, reduceCtorEq, Nat.reduceLT, Nat.reducePow, Nat.reduceLeDiff, Nat.reduceAdd, Nat.reduceMul, Nat.reduceSub, Nat.reduceEqDiff, Nat.reduceBEq, Int.reduceToNat, Int.reduceBEq, Int.reduceBNe, hd, cb, sz, sb, ai, bi]); (all_goals (repeat' (with_reducible apply And.intro))); (all_goals try (first | exact q5 rfl | (refine z10 ?_; omega) | (refine q5 ?_; simp; done)))
          all_goals first
            | exact le_grgr (by simp) (by simp) (fun j hlt => catF_put (fun k => [.v (.string (txt k))]) _ out _ _ rfl j hlt)
            | exact ⟨rfl, rfl, by simp, by simp⟩
            | (refine ⟨rfl, rfl, fun j hj => ?_⟩
               have p1 := chI_plus (r := r) (b := b) (n := 127 - i) (j := 127 - j) (by omega) (by omega) hr
               have p2 := chI_other (r := r) (b := b) (n := 127 - i) (j := 127 - j) (by omega) (by omega) hr
               simp only [p1, p2, hbv]
               by_cases e : j = i
               · subst e; simp
               · simp [e, show ¬ 127 - j = 127 - i from by omega])
      all_goals
        cases hav : a.v.getLsbD (127 - i)
        all_goals
          simp only [chI, hac, hav, hbc, if_true, if_false, Bool.false_eq_true] at ai bi
          simp only [hac, hbc, Bool.not_false, Bool.not_true, Bool.and_self, Bool.and_true, Bool.and_false, if_false, Bool.false_eq_true] at he
          try (have := sn hav; rw [hac] at this; cases this; done)
          try (cases hbv : b.v.getLsbD (127 - i) <;> simp only [hbv, if_true, if_false, Bool.false_eq_true] at bi)
          all_goals
            (repeat (first | refine j0 ?_ | refine j6 rfl ?_ | refine q7 rfl ?_ | refine q6 ?_ | (refine z2 fun K hK => ?_) | (refine x3 (by kernel_rfl) (by kernel_rfl) fun K hK => ?_) | ((first | refine x5 ?_ | refine j5 ?_ | ((first | refine z1 (hK _ ?_) | refine j4 (hK _ _ (x4 (by kernel_rfl)) ?_)); clear hK K)); (first | show AWP _ _ _ _ _ | ((try simp only [j7]); first | show loopQ _ _ _ _ _ _ | show cutQ _ _ _ _ | show AWP _ _ _ _ _))) | ((first | refine z7 [21] rfl ?_ | refine x7 [21] rfl ?_); simp (maxSteps := 2000000) (disch := omega) only [go_sem, ↓reduceIte, reduceCtorEq, Nat.reduceLT, Nat.reducePow, Nat.reduceLeDiff, Nat.reduceAdd, Nat.reduceMul, Nat.reduceSub, Nat.reduceEqDiff, Nat.reduceBEq, Int.reduceToNat, Int.reduceBEq, Int.reduceBNe, hd, cb, sz, sb, ai, bi]; (repeat (first | refine ⟨by omega, ?_⟩ | refine ⟨fun _ _ => rfl, ?_⟩)))))
            refine ⟨⟨⟨i + 1, out, r⟩, by simp only []; omega, by simp only []; omega, ?_, fun j hj => hv j (by simp only [] at hj; omega)⟩, by simp only []; omega, ?_⟩
            · rw [show 128 - (i + 1) = 127 - i from by omega]; exact he
            refine Weak.list ?_ ?_; (all_goals simp (disch := omega) only [AllF, AllL, j9, q10, q9, exists_eq_left', Option.some.injEq, go_sem, ↓reduceIte, reduceCtorEq, Nat.reduceLT, Nat.reducePow, Nat.reduceLeDiff, Nat.reduceAdd, Nat.reduceMul, Nat.reduceSub, Nat.reduceEqDiff, Nat.reduceBEq, Int.reduceToNat, Int.reduceBEq, Int.reduceBNe, hd, cb, sz, sb, ai, bi]); (all_goals (repeat' (with_reducible apply And.intro))); (all_goals try (first | exact q5 rfl | (refine z10 ?_; omega) | (refine q5 ?_; simp; done)))
    · have h128 : i = 128 := by omega
      subst h128
      simp only [Nat.sub_self, lessGo, List.append_nil] at he
      (repeat (first | refine j0 ?_ | refine j6 rfl ?_ | refine q7 rfl ?_ | refine q6 ?_ | (refine z2 fun K hK => ?_) | (refine x3 (by kernel_rfl) (by kernel_rfl) fun K hK => ?_) | ((first | refine x5 ?_ | refine j5 ?_ | ((first | refine z1 (hK _ ?_) | refine j4 (hK _ _ (x4 (by kernel_rfl)) ?_)); clear hK K)); (first | show AWP _ _ _ _ _ | ((try simp only [j7]); first | show loopQ _ _ _ _ _ _ | show cutQ _ _ _ _ | show AWP _ _ _ _ _))) | ((first | refine z7 [21] rfl ?_ | refine x7 [21] rfl ?_); simp (maxSteps := 2000000) (disch := omega) only [go_sem, ↓reduceIte, reduceCtorEq, Nat.reduceLT, Nat.reducePow, Nat.reduceLeDiff, Nat.reduceAdd, Nat.reduceMul, Nat.reduceSub, Nat.reduceEqDiff, Nat.reduceBEq, Int.reduceToNat, Int.reduceBEq, Int.reduceBNe, hd, cb, sz, sb]; (repeat (first | refine ⟨by omega, ?_⟩ | refine ⟨fun _ _ => rfl, ?_⟩)))))
      refine awp_slot 4 _ (.p (.d (.sl 1 L.length (rowT L)))) rfl ?_ ?_
      · rw [← he]
        exact le_gr rfl (fun _ _ => rfl)
      refine x8 ⟨_, ?_, rfl⟩; rw [Try.results69]; simp (disch := omega) only [ResVars, ResVar, ptrLoc, go_sem, ↓reduceIte, reduceCtorEq, Nat.reduceLT, Nat.reducePow, Nat.reduceLeDiff, Nat.reduceAdd, Nat.reduceMul, Nat.reduceSub, Nat.reduceEqDiff, Nat.reduceBEq, Int.reduceToNat, Int.reduceBEq, Int.reduceBNe, hd, cb, sz, sb]
theorem LessT_c (a b : Cube) (ha : a.sound = true) (hb : b.sound = true) : ACalls Try.prog 69 [.d (.v (.string (txt a))), .d (.v (.string (txt b)))] (· = [.d (.sl 1 (lessL a b).length (rowT (lessL a b)))]) := LessT_c' a b ha hb _ rfl
end Go.Proofs.Ytbiildleaelodaa
set_option linter.unusedSimpArgs false
set_option linter.unusedVariables false
namespace Go.Proofs.Ytbiildleaelodaa
open Go.Proofs.Ytbiildleaelodaa.AL
theorem plus_sound {r b : Cube} {n : Nat} (hn : n < 128) (hr : r.sound = true) : (plus r b n).sound = true := by
  refine (sound_iff _).2 fun i hi hv => ?_
  rw [plus_v hn hi] at hv
  rw [plus_c hn hi]
  cases h : r.v.getLsbD i
  · rw [h] at hv; simp at hv; simp [hv.2]
  · rw [(sound_iff r).1 hr i hi h]; rfl
theorem other_sound {r b : Cube} {n : Nat} (hn : n < 128) (hr : r.sound = true) : (other r b n).sound = true := by
  refine (sound_iff _).2 fun i hi hv => ?_
  rw [other_v hn hi] at hv
  rw [other_c hn hi]
  by_cases h : i = n
  · simp [h]
  · simp only [h, decide_false, Bool.and_false, Bool.or_false, Bool.xor_false] at hv ⊢
    exact (sound_iff r).1 hr i hi hv
theorem lessGo_mem (b : Cube) (more : BitVec 128) : ∀ (n : Nat) (r : Cube), n ≤ 128 → r.sound = true → (∀ j, j < n → more.getLsbD j = true → r.c.getLsbD j = false) → ∀ k ∈ lessGo b more n r, k.sound = true ∧ ∀ j, j < 128 → r.c.getLsbD j = true → k.c.getLsbD j = true ∧ k.v.getLsbD j = r.v.getLsbD j
  | 0, r, _, _, _, k, hk => by simp [lessGo] at hk
  | n + 1, r, hn, hr, hm, k, hk => by
    rw [lessGo_succ] at hk
    have pc : ∀ j, j < 128 → r.c.getLsbD j = true → more.getLsbD n = true → j ≠ n := fun j hj hc hmn e => by subst e; rw [hm j (by omega) hmn] at hc; cases hc
    split at hk
    · rename_i hmn
      rcases List.mem_cons.1 hk with rfl | hk
      · refine ⟨other_sound (by omega) hr, fun j hj hc => ?_⟩
        have hne := pc j hj hc hmn
        rw [other_c (by omega) hj, other_v (by omega) hj, hc]
        simp [hne]
      · obtain ⟨h1, h2⟩ := lessGo_mem b more n (plus r b n) (by omega) (plus_sound (by omega) hr) (fun j hj hmj => by rw [plus_c (by omega) (by omega), hm j (by omega) hmj]; simp; omega) k hk
        refine ⟨h1, fun j hj hc => ?_⟩
        have hne := pc j hj hc hmn
        obtain ⟨h3, h4⟩ := h2 j hj (by rw [plus_c (by omega) hj, hc]; rfl)
        refine ⟨h3, ?_⟩
        rw [h4, plus_v (by omega) hj]
        simp [hne]
    · exact lessGo_mem b more n r (by omega) hr (fun j hj => hm j (by omega)) k hk
theorem more_free (a b : Cube) (j : Nat) (hj : j < 128) (h : (b.c &&& ~~~a.c).getLsbD j = true) : a.c.getLsbD j = false := by
  rw [BitVec.getLsbD_and, BitVec.getLsbD_not, decide_eq_true hj, Bool.true_and] at h
  cases hc : a.c.getLsbD j
  · rfl
  · rw [hc] at h; simp at h
theorem lessL_mem {a b : Cube} (ha : a.sound = true) {k : Cube} (hk : k ∈ lessL a b) : k.sound = true ∧ ∀ j, j < 128 → a.c.getLsbD j = true → k.c.getLsbD j = true ∧ k.v.getLsbD j = a.v.getLsbD j := by
  unfold lessL at hk
  split at hk
  · split at hk
    · exact lessGo_mem b _ 128 a (Nat.le_refl _) ha (fun j hj h => more_free a b j hj h) k hk
    · simp at hk; subst hk; exact ⟨ha, fun j hj hc => ⟨hc, rfl⟩⟩
  · simp at hk
theorem within_iff {a b : Cube} (ha : a.sound = true) (hb : b.sound = true) : withinC a b = true ↔ ∀ i, i < 128 → b.c.getLsbD i = true → a.c.getLsbD i = true ∧ a.v.getLsbD i = b.v.getLsbD i := by
  rw [← withinT_iff]; unfold withinC withinT; rw [ha, hb]; rfl
theorem has_iff {k : Cube} (hk : k.sound = true) (h : BitVec 128) : hasC k h = true ↔ ∀ i, i < 128 → k.c.getLsbD i = true → h.getLsbD i = k.v.getLsbD i := by
  unfold hasC
  rw [hk, Bool.true_and, beq_iff_eq]
  constructor
  · intro e i hi hc
    have := congrArg (fun z => z.getLsbD i) e
    simpa [hc] using this
  · intro e
    apply BitVec.eq_of_getLsbD_eq
    intro i hi
    rw [BitVec.getLsbD_and]
    cases hc : k.c.getLsbD i
    · cases hv : k.v.getLsbD i
      · simp
      · rw [(sound_iff k).1 hk i hi hv] at hc; cases hc
    · rw [e i hi hc, Bool.and_true]
theorem bool_iff {x y : Bool} (h : x = true ↔ y = true) : x = y := by cases x <;> cases y <;> simp at h <;> rfl
theorem has_plus {r b : Cube} {n : Nat} (hn : n < 128) (hr : r.sound = true) (hc : r.c.getLsbD n = false) (h : BitVec 128) : hasC (plus r b n) h = (hasC r h && (h.getLsbD n == b.v.getLsbD n)) := by
  have hv : r.v.getLsbD n = false := by
    cases hv : r.v.getLsbD n
    · rfl
    · rw [(sound_iff r).1 hr n hn hv] at hc; cases hc
  apply bool_iff
  rw [Bool.and_eq_true, has_iff (plus_sound hn hr), has_iff hr, beq_iff_eq]
  constructor
  · intro e
    refine ⟨fun i hi hci => ?_, ?_⟩
    · have hne : i ≠ n := fun e => by subst e; rw [hc] at hci; cases hci
      rw [e i hi (by rw [plus_c hn hi, hci]; rfl), plus_v hn hi]
      simp [hne]
    · rw [e n hn (by rw [plus_c hn hn]; simp), plus_v hn hn, hv]; simp
  · rintro ⟨e1, e2⟩ i hi hci
    rw [plus_v hn hi]
    by_cases hne : i = n
    · subst hne; rw [hv]; simpa using e2
    · rw [plus_c hn hi] at hci
      simp only [hne, decide_false, Bool.or_false] at hci
      rw [e1 i hi hci]; simp [hne]
theorem has_other {r b : Cube} {n : Nat} (hn : n < 128) (hr : r.sound = true) (hc : r.c.getLsbD n = false) (h : BitVec 128) : hasC (other r b n) h = (hasC r h && !(h.getLsbD n == b.v.getLsbD n)) := by
  have hv : r.v.getLsbD n = false := by
    cases hv : r.v.getLsbD n
    · rfl
    · rw [(sound_iff r).1 hr n hn hv] at hc; cases hc
  apply bool_iff
  rw [Bool.and_eq_true, has_iff (other_sound hn hr), has_iff hr]
  constructor
  · intro e
    refine ⟨fun i hi hci => ?_, ?_⟩
    · have hne : i ≠ n := fun e => by subst e; rw [hc] at hci; cases hci
      rw [e i hi (by rw [other_c hn hi, hci]; rfl), other_v hn hi]
      simp [hne]
    · rw [e n hn (by rw [other_c hn hn]; simp), other_v hn hn, hv]; cases b.v.getLsbD n <;> simp
  · rintro ⟨e1, e2⟩ i hi hci
    rw [other_v hn hi]
    by_cases hne : i = n
    · subst hne; rw [hv]; revert e2; cases h.getLsbD i <;> cases b.v.getLsbD i <;> simp
    · rw [other_c hn hi] at hci
      simp only [hne, decide_false, Bool.or_false] at hci
      rw [e1 i hi hci]; simp [hne]
def lessEnd (b : Cube) (more : BitVec 128) : Nat → Cube → Cube
  | 0, r => r
  | n + 1, r => if more.getLsbD n then lessEnd b more n (plus r b n) else lessEnd b more n r
theorem lessEnd_bits (b : Cube) (more : BitVec 128) : ∀ (n : Nat) (r : Cube), n ≤ 128 → ∀ j, j < 128 → (lessEnd b more n r).c.getLsbD j = (r.c.getLsbD j || (more.getLsbD j && decide (j < n))) ∧ (lessEnd b more n r).v.getLsbD j = (r.v.getLsbD j || (b.v.getLsbD j && (more.getLsbD j && decide (j < n))))
  | 0, r, _, j, hj => by simp [lessEnd]
  | n + 1, r, hn, j, hj => by
    unfold lessEnd
    split
    · rename_i hm
      obtain ⟨h1, h2⟩ := lessEnd_bits b more n (plus r b n) (by omega) j hj
      rw [h1, h2, plus_c (by omega) hj, plus_v (by omega) hj]
      by_cases e : j = n
      · subst e; simp [hm]
      · have : decide (j < n + 1) = decide (j < n) := decide_eq_decide.2 (by omega)
        rw [this]; simp [e]
    · rename_i hm
      obtain ⟨h1, h2⟩ := lessEnd_bits b more n r (by omega) j hj
      rw [h1, h2]
      by_cases e : j = n
      · subst e; simp [hm]
      · have : decide (j < n + 1) = decide (j < n) := decide_eq_decide.2 (by omega)
        rw [this]; simp
theorem cube_ext {x y : Cube} (hc : ∀ j, j < 128 → x.c.getLsbD j = y.c.getLsbD j) (hv : ∀ j, j < 128 → x.v.getLsbD j = y.v.getLsbD j) : x = y := by
  obtain ⟨a, b⟩ := x
  obtain ⟨c, d⟩ := y
  have h1 : a = c := BitVec.eq_of_getLsbD_eq hv
  have h2 : b = d := BitVec.eq_of_getLsbD_eq hc
  rw [h1, h2]
theorem lessEnd_meet {a b : Cube} (h : meetO a b = true) : lessEnd b (b.c &&& ~~~a.c) 128 a = meetV a b := by
  have hm := h
  unfold meetO at h
  simp only [Bool.and_eq_true] at h
  obtain ⟨⟨ha, hb⟩, hap⟩ := h
  have hap := (apart_iff a b).1 hap
  have e : meetV a b = ⟨a.v ||| b.v, a.c ||| b.c⟩ := by unfold meetV; rw [hm]; rfl
  rw [e]
  refine cube_ext (fun j hj => ?_) (fun j hj => ?_)
  · rw [(lessEnd_bits b _ 128 a (Nat.le_refl _) j hj).1]
    simp only [BitVec.getLsbD_and, BitVec.getLsbD_or, BitVec.getLsbD_not, hj, decide_true, Bool.true_and, Bool.and_true]
    cases a.c.getLsbD j <;> cases b.c.getLsbD j <;> rfl
  · rw [(lessEnd_bits b _ 128 a (Nat.le_refl _) j hj).2]
    have h1 := (sound_iff a).1 ha j hj; have h2 := (sound_iff b).1 hb j hj; have h3 := hap j hj
    simp only [BitVec.getLsbD_and, BitVec.getLsbD_or, BitVec.getLsbD_not, hj, decide_true, Bool.true_and, Bool.and_true]
    revert h1 h2 h3
    cases a.c.getLsbD j <;> cases b.c.getLsbD j <;> cases a.v.getLsbD j <;> cases b.v.getLsbD j <;> simp
def cnt (x : Bool) : Nat := if x then 1 else 0
theorem less_count (b : Cube) (more : BitVec 128) (h : BitVec 128) : ∀ (n : Nat) (r : Cube), n ≤ 128 → r.sound = true → (∀ j, j < n → more.getLsbD j = true → r.c.getLsbD j = false) →
    (lessGo b more n r).countP (hasC · h) + cnt (hasC (lessEnd b more n r) h) = cnt (hasC r h)
  | 0, r, _, _, _ => by simp [lessGo, lessEnd]
  | n + 1, r, hn, hr, hm => by
    rw [lessGo_succ]
    unfold lessEnd
    split
    · rename_i hmn
      have hc := hm n (by omega) hmn
      have ih := less_count b more h n (plus r b n) (by omega) (plus_sound (by omega) hr) (fun j hj hmj => by rw [plus_c (by omega) (by omega), hm j (by omega) hmj]; simp; omega)
      rw [List.countP_cons]
      rw [has_plus (by omega) hr hc] at ih
      simp only [has_other (show n < 128 by omega) hr hc]
      generalize cnt (hasC (lessEnd b more n (plus r b n)) h) = e at ih ⊢
      generalize List.countP (hasC · h) (lessGo b more n (plus r b n)) = c at ih ⊢
      revert ih
      cases hasC r h <;> cases (h.getLsbD n == b.v.getLsbD n) <;> simp [cnt] <;> omega
    · exact less_count b more h n r (by omega) hr (fun j hj => hm j (by omega))
theorem parts_count {a b : Cube} (ha : a.sound = true) (hb : b.sound = true) (h : BitVec 128) : cnt (meetO a b && hasC (meetV a b) h) + (lessL a b).countP (hasC · h) = cnt (hasC a h) := by
  unfold lessL
  rw [ha, hb]
  cases hm : meetO a b
  · simp [cnt, List.countP_cons]
  · have := less_count b (b.c &&& ~~~a.c) h 128 a (Nat.le_refl _) ha (fun j hj hh => more_free a b j hj hh)
    rw [lessEnd_meet hm] at this
    simp only [Bool.and_self, if_true, Bool.true_and]
    omega
end Go.Proofs.Ytbiildleaelodaa
set_option linter.unusedSimpArgs false
set_option linter.unusedVariables false
namespace Go.Proofs.Ytbiildleaelodaa
open Go.Proofs.Ytbiildleaelodaa.AL
theorem rowT_of (L : List Cube) (i : Nat) : rowT L i = [.v (.string (txt (L.getD i ⟨0, 0⟩)))] := rfl
theorem rowT_put (out : List Cube) (c : Cube) (i : Nat) (hlt : i < out.length + 1) : catF out.length (rowT out) (fun i => [[Dat.v (.string (txt c))]].getD i []) i = rowT (out ++ [c]) i :=
  catF_put (fun k => [.v (.string (txt k))]) ⟨0, 0⟩ out c _ rfl i hlt
end Go.Proofs.Ytbiildleaelodaa
set_option linter.unusedSimpArgs false
set_option linter.unusedVariables false
namespace Go.Proofs.Ytbiildleaelodaa
open Go.Proofs.Ytbiildleaelodaa.AL
def leanR : List Cube → List Cube → List Cube
  | _, [] => []
  | pre, x :: s => if x.sound && !(pre.any (withinC x)) && !(s.any fun y => withinC x y && x != y) then x :: leanR (pre ++ [x]) s else leanR (pre ++ [x]) s
theorem leanR_cons (pre s : List Cube) (x : Cube) : leanR pre (x :: s) = if x.sound && !(pre.any (withinC x)) && !(s.any fun y => withinC x y && x != y) then x :: leanR (pre ++ [x]) s else leanR (pre ++ [x]) s := rfl
theorem map_getD {α : Type} (l : List α) (z : α) : (List.range l.length).map (fun i => l.getD i z) = l := by
  apply List.ext_getElem
  · simp
  · intro i h1 h2
    simp at h1
    simp [h1]
theorem range_any {α : Type} (P : α → Bool) (l : List α) (z : α) : (List.range l.length).any (fun i => P (l.getD i z)) = l.any P := by
  have := congrArg (List.any · P) (map_getD l z)
  simp only [List.any_map] at this
  exact this
theorem any_congr' {α : Type} {p q : α → Bool} {l : List α} (h : ∀ x ∈ l, p x = q x) : l.any p = l.any q := by
  induction l with
  | nil => rfl
  | cons x l ih => rw [List.any_cons, List.any_cons, h x (by simp), ih fun y hy => h y (by simp [hy])]
theorem spareP_app (pre s : List Cube) (x : Cube) : spareP (pre ++ x :: s) pre.length = (pre.any (withinC x) || (s.any (fun y => withinC x y && x != y)) || !x.sound) := by
  unfold spareP
  have e0 : (pre ++ x :: s).getD pre.length ⟨0, 0⟩ = x := by simp
  rw [e0]
  congr 1
  have hl : (pre ++ x :: s).length = pre.length + (1 + s.length) := by simp; omega
  rw [hl, List.range_add, List.any_append, List.range_add, List.map_append, List.any_append, List.any_map, List.any_map, List.any_map]
  have e1 : (List.range pre.length).any (spareBy (pre ++ x :: s) pre.length) = pre.any (withinC x) := by
    rw [← range_any (withinC x) pre ⟨0, 0⟩]
    refine any_congr' fun i hi => ?_
    have hi := List.mem_range.1 hi
    unfold spareBy
    have eg : (pre ++ x :: s).getD i ⟨0, 0⟩ = pre.getD i ⟨0, 0⟩ := by rw [List.getD_eq_getElem?_getD, List.getD_eq_getElem?_getD, List.getElem?_append_left hi]
    rw [e0, eg]
    have : (i != pre.length) = true := by simp; omega
    rw [this, decide_eq_true hi, Bool.or_true, Bool.and_true, Bool.true_and]
  have e2 : (List.range 1).any (spareBy (pre ++ x :: s) pre.length ∘ fun y => pre.length + y) = false := by
    simp [spareBy, List.range_succ]
  have e3 : (List.range s.length).any ((spareBy (pre ++ x :: s) pre.length ∘ fun y => pre.length + y) ∘ fun y => 1 + y) = s.any (fun y => withinC x y && x != y) := by
    rw [← range_any (fun y => withinC x y && x != y) s ⟨0, 0⟩]
    refine any_congr' fun i hi => ?_
    have hi := List.mem_range.1 hi
    simp only [Function.comp]
    unfold spareBy
    have eg : (pre ++ x :: s).getD (pre.length + (1 + i)) ⟨0, 0⟩ = s.getD i ⟨0, 0⟩ := by rw [List.getD_eq_getElem?_getD, List.getD_eq_getElem?_getD, List.getElem?_append_right (by omega), show pre.length + (1 + i) - pre.length = i + 1 from by omega, List.getElem?_cons_succ]
    rw [e0, eg]
    have : (pre.length + (1 + i) != pre.length) = true := by simp
    rw [this, decide_eq_false (show ¬ pre.length + (1 + i) < pre.length by omega), Bool.or_false, Bool.true_and]
  rw [e1, e2, e3, Bool.false_or]
theorem leanR_range (s : List Cube) : ∀ pre, (List.range' pre.length s.length).filterMap (fun n => if spareP (pre ++ s) n then none else some ((pre ++ s).getD n ⟨0, 0⟩)) = leanR pre s := by
  induction s with
  | nil => intro pre; rfl
  | cons x s ih =>
    intro pre
    have ih := ih (pre ++ [x])
    have e : pre ++ [x] ++ s = pre ++ x :: s := by simp
    rw [e, show (pre ++ [x]).length = pre.length + 1 from by simp] at ih
    rw [List.length_cons, List.range'_succ, List.filterMap_cons, ih, spareP_app]
    have e0 : (pre ++ x :: s).getD pre.length ⟨0, 0⟩ = x := by simp
    rw [leanR_cons, e0]
    cases x.sound <;> cases pre.any (withinC x) <;> cases s.any (fun y => withinC x y && x != y) <;> rfl
theorem leanP_eq (l : List Cube) : leanP l = leanR [] l := by
  have := leanR_range l []
  rw [← this]
  unfold leanP leanTo
  rw [List.range_eq_range']
  rfl
theorem within_sound {x y : Cube} (h : withinC x y = true) : y.sound = true := by
  unfold withinC at h
  simp only [Bool.and_eq_true] at h
  exact h.1.1.2
theorem leanR_mem : ∀ (s pre : List Cube), ∀ k ∈ leanR pre s, k ∈ s ∧ k.sound = true
  | [], pre, k, h => by simp [leanR] at h
  | x :: s, pre, k, h => by
    rw [leanR_cons] at h
    split at h
    · rename_i hc
      rcases List.mem_cons.1 h with rfl | h
      · simp only [Bool.and_eq_true] at hc; exact ⟨by simp, hc.1.1⟩
      · obtain ⟨h1, h2⟩ := leanR_mem s _ k h; exact ⟨by simp [h1], h2⟩
    · obtain ⟨h1, h2⟩ := leanR_mem s _ k h; exact ⟨by simp [h1], h2⟩
theorem leanP_mem {l : List Cube} {k : Cube} (h : k ∈ leanP l) : k ∈ l ∧ k.sound = true := by
  rw [leanP_eq] at h; exact leanR_mem l [] k h
theorem txt_inj {a b : Cube} (ha : a.sound = true) (hb : b.sound = true) (h : txt a = txt b) : a = b := by
  have hc : ∀ n, n < 128 → chI a n = chI b n := by
    intro n hn
    have h1 := txt_at a (127 - n) (by omega)
    have h2 := txt_at b (127 - n) (by omega)
    rw [show 127 - (127 - n) = n from by omega] at h1 h2
    rw [← h1, ← h2, h]
  have key : ∀ n, n < 128 → a.c.getLsbD n = b.c.getLsbD n ∧ a.v.getLsbD n = b.v.getLsbD n := by
    intro n hn
    have h1 := hc n hn
    have sa := (sound_iff a).1 ha n hn
    have sb := (sound_iff b).1 hb n hn
    unfold chI at h1
    revert h1 sa sb
    cases a.c.getLsbD n <;> cases b.c.getLsbD n <;> cases a.v.getLsbD n <;> cases b.v.getLsbD n <;> simp
  exact cube_ext (fun j hj => (key j hj).1) (fun j hj => (key j hj).2)
theorem txt_beq {a b : Cube} (ha : a.sound = true) (hb : b.sound = true) : (txt a == txt b) = (a == b) := by
  have e : ((txt a).data == (txt b).data) = (a == b) := by
    rw [Bool.eq_iff_iff, beq_iff_eq, beq_iff_eq]
    exact ⟨fun h => txt_inj ha hb (by cases h1 : txt a; cases h2 : txt b; rw [h1, h2] at h; simp only at h; rw [h]), fun h => by rw [h]⟩
  exact e
end Go.Proofs.Ytbiildleaelodaa
set_option linter.unusedSimpArgs false
set_option linter.unusedVariables false
namespace Go.Proofs.Ytbiildleaelodaa
open Go.Proofs.Ytbiildleaelodaa.AL
theorem has_sound {k : Cube} {h : BitVec 128} (e : hasC k h = true) : k.sound = true := by unfold hasC at e; rw [Bool.and_eq_true] at e; exact e.1
theorem within_has {x y : Cube} {h : BitVec 128} (w : withinC x y = true) (hx : hasC x h = true) : hasC y h = true := by
  have sx := has_sound hx
  have sy := within_sound w
  refine (has_iff sy h).2 fun i hi hc => ?_
  obtain ⟨h1, h2⟩ := (within_iff sx sy).1 w i hi hc
  rw [← h2]; exact (has_iff sx h).1 hx i hi h1
theorem within_lt {x y : Cube} (w : withinC x y = true) (hx : x.sound = true) : y.c.toNat ≤ x.c.toNat ∧ (y.c.toNat = x.c.toNat → x = y) := by
  have sy := within_sound w
  have wi := (within_iff hx sy).1 w
  have e : y.c = y.c &&& x.c := by
    apply BitVec.eq_of_getLsbD_eq
    intro i hi
    rw [BitVec.getLsbD_and]
    cases hc : y.c.getLsbD i
    · rfl
    · rw [(wi i hi hc).1]; rfl
  refine ⟨?_, fun q => ?_⟩
  · rw [e, BitVec.toNat_and]; exact Nat.and_le_right
  · have hc : x.c = y.c := (BitVec.eq_of_toNat_eq q).symm
    refine cube_ext (fun j _ => by rw [hc]) (fun j hj => ?_)
    cases hcj : y.c.getLsbD j
    · have a := (sound_iff x).1 hx j hj
      have b := (sound_iff y).1 sy j hj
      rw [hc, hcj] at a
      rw [hcj] at b
      cases hv : x.v.getLsbD j
      · cases hv2 : y.v.getLsbD j
        · rfl
        · exact absurd (b hv2) (by decide)
      · exact absurd (a hv) (by decide)
    · exact (wi j hj hcj).2
theorem first_min {α : Type} (p : α → Bool) (m : α → Nat) (z : α) : ∀ (l : List α), l.any p = true → ∃ n, n < l.length ∧ p (l.getD n z) = true ∧ ∀ i, i < l.length → p (l.getD i z) = true → m (l.getD n z) ≤ m (l.getD i z) ∧ (i < n → m (l.getD n z) < m (l.getD i z))
  | [], h => by simp at h
  | x :: l, h => by
    by_cases hl : l.any p = true
    · obtain ⟨n, hn, hp, hm⟩ := first_min p m z l hl
      by_cases hx : p x = true ∧ m x ≤ m (l.getD n z)
      · refine ⟨0, by simp, by simpa using hx.1, fun i hi hpi => ⟨?_, by omega⟩⟩
        cases i with
        | zero => exact Nat.le_refl _
        | succ i =>
          rw [List.getD_cons_succ] at hpi
          rw [List.getD_cons_zero, List.getD_cons_succ]
          exact Nat.le_trans hx.2 (hm i (by simpa using hi) hpi).1
      · refine ⟨n + 1, by simpa using hn, by simpa using hp, fun i hi hpi => ?_⟩
        rw [List.getD_cons_succ]
        cases i with
        | zero =>
          rw [List.getD_cons_zero] at hpi ⊢
          have : m (l.getD n z) < m x := Nat.lt_of_not_le fun hle => hx ⟨hpi, hle⟩
          exact ⟨Nat.le_of_lt this, fun _ => this⟩
        | succ i =>
          rw [List.getD_cons_succ] at hpi ⊢
          have := hm i (by simpa using hi) hpi
          exact ⟨this.1, fun h => this.2 (by omega)⟩
    · have hx : p x = true := by simpa [hl] using h
      refine ⟨0, by simp, by simpa using hx, fun i hi hpi => ⟨?_, by omega⟩⟩
      cases i with
      | zero => exact Nat.le_refl _
      | succ i =>
        rw [List.getD_cons_succ] at hpi
        exact absurd (List.any_eq_true.2 ⟨l.getD i z, getD_in (by simpa using hi) z, hpi⟩) hl
theorem leanP_in {l : List Cube} {n : Nat} (hn : n < l.length) (hs : spareP l n = false) : l.getD n ⟨0, 0⟩ ∈ leanP l := by
  unfold leanP leanTo
  exact List.mem_filterMap.2 ⟨n, List.mem_range.2 hn, by rw [hs]; rfl⟩
theorem lean_has (l : List Cube) (h : BitVec 128) : hasP (leanP l) h = hasP l h := by
  apply bool_iff
  unfold hasP
  constructor
  · intro e
    obtain ⟨k, hk, hh⟩ := List.any_eq_true.1 e
    exact List.any_eq_true.2 ⟨k, (leanP_mem hk).1, hh⟩
  · intro e
    obtain ⟨n, hn, hp, hm⟩ := first_min (hasC · h) (fun k => k.c.toNat) ⟨0, 0⟩ l e
    refine List.any_eq_true.2 ⟨_, leanP_in hn ?_, hp⟩
    have sx := has_sound hp
    cases hs : spareP l n
    · rfl
    unfold spareP at hs
    rw [sx, Bool.not_true, Bool.or_false] at hs
    obtain ⟨i, hi, hb⟩ := List.any_eq_true.1 hs
    have hi := List.mem_range.1 hi
    unfold spareBy at hb
    simp only [Bool.and_eq_true, Bool.or_eq_true, bne_iff_ne, ne_eq, decide_eq_true_eq] at hb
    obtain ⟨hne, hw, ho⟩ := hb
    have hh := within_has hw hp
    obtain ⟨h1, h2⟩ := within_lt hw sx
    obtain ⟨h3, h4⟩ := hm i hi hh
    have q := h2 (by omega)
    rcases ho with ho | ho
    · exact absurd q ho
    · have := h4 ho
      rw [q] at this
      omega
theorem meet_hasC (x y : Cube) (h : BitVec 128) : (meetO x y && hasC (meetV x y) h) = (hasC x h && hasC y h) := by
  apply bool_iff
  rw [Bool.and_eq_true, Bool.and_eq_true]
  constructor
  · rintro ⟨hm, hh⟩
    have hm' := hm
    unfold meetO at hm'
    simp only [Bool.and_eq_true] at hm'
    obtain ⟨⟨sx, sy⟩, ha⟩ := hm'
    have ha := (apart_iff x y).1 ha
    have sm := has_sound hh
    have hh := (has_iff sm h).1 hh
    have e : meetV x y = ⟨x.v ||| y.v, x.c ||| y.c⟩ := by unfold meetV; rw [hm]; rfl
    rw [e] at hh
    simp only [BitVec.getLsbD_or, Bool.or_eq_true] at hh
    constructor
    · refine (has_iff sx h).2 fun i hi hc => ?_
      rw [hh i hi (.inl hc)]
      cases hy : y.v.getLsbD i
      · simp
      · have hcy := (sound_iff y).1 sy i hi hy
        rw [ha i hi hc hcy, hy]; rfl
    · refine (has_iff sy h).2 fun i hi hc => ?_
      rw [hh i hi (.inr hc)]
      cases hx : x.v.getLsbD i
      · simp
      · have hcx := (sound_iff x).1 sx i hi hx
        rw [← ha i hi hcx hc, hx]; rfl
  · rintro ⟨hx, hy⟩
    have sx := has_sound hx
    have sy := has_sound hy
    have ex := (has_iff sx h).1 hx
    have ey := (has_iff sy h).1 hy
    have hm : meetO x y = true := by
      unfold meetO
      rw [sx, sy, Bool.true_and, Bool.true_and]
      exact (apart_iff x y).2 fun i hi h1 h2 => by rw [← ex i hi h1, ← ey i hi h2]
    refine ⟨hm, ?_⟩
    have e : meetV x y = ⟨x.v ||| y.v, x.c ||| y.c⟩ := by unfold meetV; rw [hm]; rfl
    have sm : (meetV x y).sound = true := by
      rw [e]
      refine (sound_iff _).2 fun i hi hv => ?_
      simp only [BitVec.getLsbD_or, Bool.or_eq_true] at hv ⊢
      rcases hv with hv | hv
      · exact .inl ((sound_iff x).1 sx i hi hv)
      · exact .inr ((sound_iff y).1 sy i hi hv)
    refine (has_iff sm h).2 fun i hi hc => ?_
    rw [e] at hc ⊢
    simp only [BitVec.getLsbD_or, Bool.or_eq_true] at hc ⊢
    have z : ∀ (k : Cube), k.sound = true → k.c.getLsbD i = false → k.v.getLsbD i = false := by
      intro k sk hc
      cases hv : k.v.getLsbD i
      · rfl
      · rw [(sound_iff k).1 sk i hi hv] at hc; cases hc
    cases hcx : x.c.getLsbD i
    · rw [hcx] at hc
      simp only [Bool.false_eq_true, false_or] at hc
      rw [z x sx hcx, ey i hi hc]; simp
    · cases hcy : y.c.getLsbD i
      · rw [z y sy hcy, ex i hi hcx]; simp
      · rw [← ex i hi hcx, ← ey i hi hcy]; simp
theorem countP_any {α : Type} (p : α → Bool) (l : List α) : l.any p = decide (l.countP p ≠ 0) := by
  apply bool_iff
  rw [List.any_eq_true, decide_eq_true_eq, ← List.countP_pos_iff]
  omega
theorem lessL_has {x y : Cube} (hx : x.sound = true) (hy : y.sound = true) (h : BitVec 128) : (lessL x y).any (hasC · h) = (hasC x h && !hasC y h) := by
  have pc := parts_count hx hy h
  rw [meet_hasC] at pc
  rw [countP_any]
  generalize (lessL x y).countP (hasC · h) = c at pc ⊢
  revert pc
  cases hasC x h <;> cases hasC y h <;> simp [cnt] <;> omega
theorem lessRest_has {out : List Cube} {y : Cube} (hs : ∀ k ∈ out, k.sound = true) (hy : y.sound = true) (h : BitVec 128) : hasP (lessRest out y) h = (hasP out h && !hasC y h) := by
  unfold hasP lessRest
  rw [List.any_flatMap]
  have : ∀ x ∈ out, ((lessL x y).any (hasC · h)) = (hasC x h && !hasC y h) := fun x hx => lessL_has (hs x hx) hy h
  rw [any_congr' this]
  induction out with
  | nil => rfl
  | cons x out ih =>
    rw [List.any_cons, List.any_cons, ih (fun k hk => hs k (by simp [hk])) (fun k hk => this k (by simp [hk]))]
    cases hasC x h <;> cases hasC y h <;> simp
theorem lessRest_sound {out : List Cube} {y : Cube} (hs : ∀ k ∈ out, k.sound = true) : ∀ k ∈ lessRest out y, k.sound = true := by
  intro k hk
  unfold lessRest at hk
  obtain ⟨x, hx, hk⟩ := List.mem_flatMap.1 hk
  exact (lessL_mem (hs x hx) hk).1
theorem leanE_val (l : List Cube) (h : leanE l = 0) : leanV l = leanP l := by
  unfold leanE at h
  unfold leanV
  split at h
  · cases h
  · rename_i h2; rw [if_neg h2]
theorem less_has (h : BitVec 128) : ∀ (b out : List Cube), (∀ k ∈ b, k.sound = true) → (∀ k ∈ out, k.sound = true) → (lessP b out).2 = 0 → (hasP (lessP b out).1 h = (hasP out h && !hasP b h) ∧ ∀ k ∈ (lessP b out).1, k.sound = true)
  | [], out, _, hs, _ => by unfold lessP; exact ⟨by simp [hasP], hs⟩
  | y :: r, out, hb, hs, he => by
    unfold lessP at he ⊢
    split
    · rename_i h0
      rw [if_pos h0] at he
      have sv : ∀ k ∈ leanV (lessRest out y), k.sound = true := by
        rw [leanE_val _ h0]
        exact fun k hk => (leanP_mem hk).2
      obtain ⟨h1, h2⟩ := less_has h r _ (fun k hk => hb k (by simp [hk])) sv he
      refine ⟨?_, h2⟩
      rw [h1, leanE_val _ h0, lean_has, lessRest_has hs (hb y (by simp))]
      unfold hasP
      rw [List.any_cons]
      cases hasC y h <;> simp
    · rename_i h0
      rw [if_neg h0] at he
      exact absurd he h0
theorem lessP_len : ∀ (b out : List Cube), out.length ≤ 200 → (lessP b out).1.length ≤ 200
  | [], out, h => h
  | y :: r, out, h => by
    unfold lessP
    split
    · exact lessP_len r _ (leanV_len _)
    · simp
theorem lessP_or : ∀ (b a : List Cube), (lessP b a).2 = 0 ∨ (lessP b a).2 = 10 ∧ (lessP b a).1 = [] := lessP_err
end Go.Proofs.Ytbiildleaelodaa
set_option linter.unusedSimpArgs false
set_option linter.unusedVariables false
namespace Go.Proofs.Ytbiildleaelodaa
open Go.Proofs.Ytbiildleaelodaa.AL
def woGo (l : List Rule) : List Nat → List Cube → List Cube × Int
  | [], p => (p, 0)
  | n :: r, p => if (lessP [(l.getD n r0).mt] p).2 = 0 then woGo l r (lessP [(l.getD n r0).mt] p).1 else ([], (lessP [(l.getD n r0).mt] p).2)
def withoutR (l : List Rule) (ids : List Nat) (p : List Cube) : List Cube × Int := if soundL l then woGo l ids p else ([], 2)
theorem soundL_at {l : List Rule} (h : soundL l = true) {n : Nat} (hn : n < l.length) : (l.getD n r0).mt.sound = true := by
  unfold soundL at h
  rw [List.all_eq_true] at h
  exact h _ (getD_in hn r0)
theorem lessPR_one {p : List Cube} {c : Cube} (hp : ∀ k ∈ p, k.sound = true) (hl : p.length ≤ 200) (hc : c.sound = true) : lessPR p [c] = lessP [c] p := by
  unfold lessPR
  have h1 : soundP p = true := by
    unfold soundP; rw [Bool.and_eq_true, List.all_eq_true]; exact ⟨by simpa using hl, hp⟩
  have h2 : soundP [c] = true := by unfold soundP; simp [hc]
  rw [h1, h2]; rfl
theorem LessP1_c (p : List Cube) (c : Cube) (hp : ∀ k ∈ p, k.sound = true) (hl : p.length ≤ 200) (hc : c.sound = true) : ACalls Try.prog 68 [.d (.sl 4 p.length (rowC p)), .d (.sl 4 1 fun i => [cb c].getD i [])]
    (· = [.d (.sl 4 (lessP [c] p).1.length (rowC (lessP [c] p).1)), .d (.v (.int .i64 (lessP [c] p).2))]) := by
  have k := LessP_c p [c] (by omega) (by simp)
  rw [lessPR_one hp hl hc] at k
  refine acalls_le (.cons (ple_refl _) (.cons (ple_sl rfl fun i hi => ?_) .nil)) k
  have : i = 0 := by simp at hi; exact hi
  subst this; rfl
theorem less1_keeps {p : List Cube} {c : Cube} (hp : ∀ k ∈ p, k.sound = true) (hc : c.sound = true) (h : (lessP [c] p).2 = 0) : ∀ k ∈ (lessP [c] p).1, k.sound = true :=
  (less_has 0 [c] p (by simp [hc]) hp h).2
def woI (l : List Rule) (ids : List Nat) (R : List Cube × Int) (s : {s : Nat × List Cube // s.1 ≤ ids.length ∧ s.2.length ≤ 200 ∧ (∀ k ∈ s.2, k.sound = true) ∧ woGo l (ids.drop s.1) s.2 = R}) : ASt :=
  ⟨[(16, .p (.d (.v (.int .i64 (s.val.1 : Int))))), (15, .p (.d (.v (.int .i64 (ids.length : Int))))), (14, .p (.d (.sl 1 ids.length (rowI ids)))), (2, .p (.d (.sl 4 s.val.2.length (rowC s.val.2)))), (0, .p (.d (.sl 12 l.length (rowR l))))], []⟩
set_option maxRecDepth 100000 in
set_option maxHeartbeats 4000000 in
theorem Without_c (l : List Rule) (ids : List Nat) (p : List Cube) (hl : l.length ≤ 1099511627776) (hi : ∀ n ∈ ids, n < l.length) (hil : ids.length ≤ 1099511627776) (hp : p.length ≤ 200) (hps : soundL l = true → ∀ k ∈ p, k.sound = true) :
    ACalls Try.prog 48 [.d (.sl 12 l.length (rowR l)), .d (.sl 1 ids.length (rowI ids)), .d (.sl 4 p.length (rowC p))] (· = [.d (.sl 4 (withoutR l ids p).1.length (rowC (withoutR l ids p).1)), .d (.v (.int .i64 (withoutR l ids p).2))]) := by
  have ks := soundL_c l hl
  unfold withoutR
  cases hs : soundL l
  · rw [hs] at ks
    simp only [Bool.false_eq_true, if_false]
    refine q11 Try.func48 rfl (by decide +kernel) (by rw [Try.ntmps48]; simp) ?_; rw [Try.ntmps48]; simp only [frOf]
    (repeat (first | refine j0 ?_ | refine j6 rfl ?_ | refine q7 rfl ?_ | refine q6 ?_ | (refine z2 fun K hK => ?_) | (refine x3 (by kernel_rfl) (by kernel_rfl) fun K hK => ?_) | ((first | refine x5 ?_ | refine j5 ?_ | ((first | refine z1 (hK _ ?_) | refine j4 (hK _ _ (x4 (by kernel_rfl)) ?_)); clear hK K)); (first | show AWP _ _ _ _ _ | ((try simp only [j7]); first | show loopQ _ _ _ _ _ _ | show cutQ _ _ _ _ | show AWP _ _ _ _ _))) | ((first | refine x10 rfl rfl rfl ?_ | refine j10 rfl rfl rfl ?_); simp (maxSteps := 2000000) (disch := omega) only [go_sem, seval, hd, cb, ruleD]; (first | refine ⟨_, ks, ?_⟩)) | ((first | refine z7 [] rfl ?_ | refine x7 [] rfl ?_); simp (maxSteps := 2000000) (disch := omega) only [go_sem, seval, hd, cb, ruleD]; (repeat (first | refine ⟨by omega, ?_⟩ | refine ⟨True.intro, ?_⟩)))))
    refine awp_slot 6 _ (.p (.d (.sl 4 0 (rowC [])))) rfl (le_nil _ _ _ rfl) ?_
    refine x8 ⟨_, ?_, rfl⟩; rw [Try.results48]; simp (disch := omega) only [ResVars, ResVar, ptrLoc, go_sem, seval, hd, cb, ruleD]
  · rw [hs] at ks
    simp only [if_true]
    obtain ⟨R, hR⟩ : ∃ R, woGo l ids p = R := ⟨_, rfl⟩
    rw [hR]
    refine q11 Try.func48 rfl (by decide +kernel) (by rw [Try.ntmps48]; simp) ?_; rw [Try.ntmps48]; simp only [frOf]
    (repeat (first | refine j0 ?_ | refine j6 rfl ?_ | refine q7 rfl ?_ | refine q6 ?_ | (refine z2 fun K hK => ?_) | (refine x3 (by kernel_rfl) (by kernel_rfl) fun K hK => ?_) | ((first | refine x5 ?_ | refine j5 ?_ | ((first | refine z1 (hK _ ?_) | refine j4 (hK _ _ (x4 (by kernel_rfl)) ?_)); clear hK K)); (first | show AWP _ _ _ _ _ | ((try simp only [j7]); first | show loopQ _ _ _ _ _ _ | show cutQ _ _ _ _ | show AWP _ _ _ _ _))) | ((first | refine x10 rfl rfl rfl ?_ | refine j10 rfl rfl rfl ?_); simp (maxSteps := 2000000) (disch := omega) only [go_sem, seval, hd, cb, ruleD]; (first | refine ⟨_, ks, ?_⟩)) | ((first | refine z7 [] rfl ?_ | refine x7 [] rfl ?_); simp (maxSteps := 2000000) (disch := omega) only [go_sem, seval, hd, cb, ruleD]; (repeat (first | refine ⟨by omega, ?_⟩ | refine ⟨True.intro, ?_⟩)))))
    refine awp_loop (woI l ids R) (fun s => ids.length - s.val.1) ⟨(0, p), by simp, hp, hps hs, by rw [List.drop_zero]; exact hR⟩ ?_ (fun s => ?_)
    · unfold woI
      refine Weak.list ?_ ?_; (all_goals simp (disch := omega) only [AllF, AllL, j9, q10, q9, exists_eq_left', Option.some.injEq, go_sem, seval, hd, cb, ruleD]); (all_goals (repeat' (with_reducible apply And.intro))); (all_goals try (first | exact q5 rfl | (refine z10 ?_; omega) | (refine q5 ?_; simp; done)))
    obtain ⟨⟨i, q⟩, h1, h2, h3, he⟩ := s
    unfold woI
    simp only [] at h1 h2 h3 he
    by_cases hn : i < ids.length
    · rw [drop_getD ids i 0 hn] at he
      have r0' := rowI_at ids i
      have hk := hi _ (getD_in hn 0)
      generalize ids.getD i 0 = k at he r0' hk
      have r1 := rowR_at l k
      have hms := soundL_at hs hk
      unfold woGo at he
      generalize l.getD k r0 = x at he r1 hms
      have kl := LessP1_c q x.mt h3 h2 hms
      have kk := less1_keeps (p := q) h3 hms
      have kn := lessP_len [x.mt] q h2
      have ko := lessP_or [x.mt] q
      generalize lessP [x.mt] q = u at he kl kk kn ko
      obtain ⟨u, e⟩ := u
      simp only [] at he kl kk kn ko
      unfold cb at kl
      rcases ko with rfl | ⟨rfl, rfl⟩
      · rw [if_pos rfl] at he
        (repeat (first | refine j0 ?_ | refine j6 rfl ?_ | refine q7 rfl ?_ | refine q6 ?_ | (refine z2 fun K hK => ?_) | (refine x3 (by kernel_rfl) (by kernel_rfl) fun K hK => ?_) | ((first | refine x5 ?_ | refine j5 ?_ | ((first | refine z1 (hK _ ?_) | refine j4 (hK _ _ (x4 (by kernel_rfl)) ?_)); clear hK K)); (first | show AWP _ _ _ _ _ | ((try simp only [j7]); first | show loopQ _ _ _ _ _ _ | show cutQ _ _ _ _ | show AWP _ _ _ _ _))) | ((first | refine x10 rfl rfl rfl ?_ | refine j10 rfl rfl rfl ?_); simp (maxSteps := 2000000) (disch := omega) only [go_sem, seval, hd, cb, ruleD, r0', r1]; (first | refine ⟨_, kl, ?_⟩)) | ((first | refine z7 [] rfl ?_ | refine x7 [] rfl ?_); simp (maxSteps := 2000000) (disch := omega) only [go_sem, seval, hd, cb, ruleD, r0', r1]; (repeat (first | refine ⟨by omega, ?_⟩ | refine ⟨True.intro, ?_⟩)))))
        refine ⟨⟨(i + 1, u), by simp only []; omega, kn, kk rfl, he⟩, by simp only []; omega, ?_⟩
        refine Weak.list ?_ ?_; (all_goals simp (disch := omega) only [AllF, AllL, j9, q10, q9, exists_eq_left', Option.some.injEq, go_sem, seval, hd, cb, ruleD, r0', r1]); (all_goals (repeat' (with_reducible apply And.intro))); (all_goals try (first | exact q5 rfl | (refine z10 ?_; omega) | (refine q5 ?_; simp; done)))
      · rw [if_neg (by decide)] at he
        subst he
        (repeat (first | refine j0 ?_ | refine j6 rfl ?_ | refine q7 rfl ?_ | refine q6 ?_ | (refine z2 fun K hK => ?_) | (refine x3 (by kernel_rfl) (by kernel_rfl) fun K hK => ?_) | ((first | refine x5 ?_ | refine j5 ?_ | ((first | refine z1 (hK _ ?_) | refine j4 (hK _ _ (x4 (by kernel_rfl)) ?_)); clear hK K)); (first | show AWP _ _ _ _ _ | ((try simp only [j7]); first | show loopQ _ _ _ _ _ _ | show cutQ _ _ _ _ | show AWP _ _ _ _ _))) | ((first | refine x10 rfl rfl rfl ?_ | refine j10 rfl rfl rfl ?_); simp (maxSteps := 2000000) (disch := omega) only [go_sem, seval, hd, cb, ruleD, r0', r1]; (first | refine ⟨_, kl, ?_⟩)) | ((first | refine z7 [] rfl ?_ | refine x7 [] rfl ?_); simp (maxSteps := 2000000) (disch := omega) only [go_sem, seval, hd, cb, ruleD, r0', r1]; (repeat (first | refine ⟨by omega, ?_⟩ | refine ⟨True.intro, ?_⟩)))))
        refine awp_slot 6 _ (.p (.d (.sl 4 0 (rowC [])))) rfl (le_nil _ _ _ rfl) ?_
        refine x8 ⟨_, ?_, rfl⟩; rw [Try.results48]; simp (disch := omega) only [ResVars, ResVar, ptrLoc, go_sem, seval, hd, cb, ruleD, r0', r1]
    · have : i = ids.length := by omega
      subst this
      rw [List.drop_length] at he
      unfold woGo at he
      subst he
      (repeat (first | refine j0 ?_ | refine j6 rfl ?_ | refine q7 rfl ?_ | refine q6 ?_ | (refine z2 fun K hK => ?_) | (refine x3 (by kernel_rfl) (by kernel_rfl) fun K hK => ?_) | ((first | refine x5 ?_ | refine j5 ?_ | ((first | refine z1 (hK _ ?_) | refine j4 (hK _ _ (x4 (by kernel_rfl)) ?_)); clear hK K)); (first | show AWP _ _ _ _ _ | ((try simp only [j7]); first | show loopQ _ _ _ _ _ _ | show cutQ _ _ _ _ | show AWP _ _ _ _ _))) | ((first | refine z7 [] rfl ?_ | refine x7 [] rfl ?_); simp (maxSteps := 2000000) (disch := omega) only [go_sem, seval, hd, cb, ruleD]; (repeat (first | refine ⟨by omega, ?_⟩ | refine ⟨True.intro, ?_⟩)))))
      refine x8 ⟨_, ?_, rfl⟩; rw [Try.results48]; simp (disch := omega) only [ResVars, ResVar, ptrLoc, go_sem, seval, hd, cb, ruleD]
theorem IndexO_c (o : List Nat) (n : Nat) (hn : n ∈ o) (hl : o.length ≤ 1099511627776) : ACalls Try.prog 49 [.d (.sl 1 o.length (rowI o)), .d (.v (.int .i64 (n : Int)))] (· = [.d (.v (.int .i64 (o.idxOf n : Int)))]) := by
  have hlt := List.idxOf_lt_length_of_mem hn
  have hge := List.getElem_idxOf hlt
  have hno : ∀ i, i < o.idxOf n → o.getD i 0 ≠ n := fun i hi e => by
    rw [List.getD_eq_getElem?_getD, List.getElem?_eq_getElem (by omega)] at e
    have h2 := List.not_of_lt_findIdx (p := (· == n)) hi
    simp at e h2
    exact h2 e
  generalize o.idxOf n = k at *
  refine q11 Try.func49 rfl (by decide +kernel) (by rw [Try.ntmps49]; simp) ?_; rw [Try.ntmps49]; simp only [frOf]
  (repeat (first | refine j0 ?_ | refine j6 rfl ?_ | refine q7 rfl ?_ | refine q6 ?_ | (refine z2 fun K hK => ?_) | (refine x3 (by kernel_rfl) (by kernel_rfl) fun K hK => ?_) | ((first | refine x5 ?_ | refine j5 ?_ | ((first | refine z1 (hK _ ?_) | refine j4 (hK _ _ (x4 (by kernel_rfl)) ?_)); clear hK K)); (first | show AWP _ _ _ _ _ | ((try simp only [j7]); first | show loopQ _ _ _ _ _ _ | show cutQ _ _ _ _ | show AWP _ _ _ _ _))) | ((first | refine z7 [] rfl ?_ | refine x7 [] rfl ?_); simp (maxSteps := 2000000) (disch := omega) only [go_sem, seval, hd, cb, ruleD]; (repeat (first | refine ⟨by omega, ?_⟩ | refine ⟨True.intro, ?_⟩)))))
  refine awp_loop (fun i : {i : Nat // i ≤ k} => ⟨[(8, .p (.d (.v (.int .i64 (i.val : Int))))), (7, .p (.d (.v (.int .i64 (o.length : Int))))), (1, .p (.d (.v (.int .i64 (n : Int))))), (0, .p (.d (.sl 1 o.length (rowI o))))], []⟩) (fun i => k - i.val) ⟨0, by omega⟩ ?_ (fun s => ?_)
  · refine Weak.list ?_ ?_; (all_goals simp (disch := omega) only [AllF, AllL, j9, q10, q9, exists_eq_left', Option.some.injEq, go_sem, seval, hd, cb, ruleD]); (all_goals (repeat' (with_reducible apply And.intro))); (all_goals try (first | exact q5 rfl | (refine z10 ?_; omega) | (refine q5 ?_; simp; done)))
  obtain ⟨i, hi⟩ := s
  have r1 := rowI_at o i
  simp only []
  by_cases h : i < k
  · have hne := hno i h
    generalize o.getD i 0 = m at r1 hne
    have q : ((n : Int) == (m : Int)) = false := ieq_ff (by omega)
    (repeat (first | refine j0 ?_ | refine j6 rfl ?_ | refine q7 rfl ?_ | refine q6 ?_ | (refine z2 fun K hK => ?_) | (refine x3 (by kernel_rfl) (by kernel_rfl) fun K hK => ?_) | ((first | refine x5 ?_ | refine j5 ?_ | ((first | refine z1 (hK _ ?_) | refine j4 (hK _ _ (x4 (by kernel_rfl)) ?_)); clear hK K)); (first | show AWP _ _ _ _ _ | ((try simp only [j7]); first | show loopQ _ _ _ _ _ _ | show cutQ _ _ _ _ | show AWP _ _ _ _ _))) | ((first | refine z7 [] rfl ?_ | refine x7 [] rfl ?_); simp (maxSteps := 2000000) (disch := omega) only [go_sem, seval, hd, cb, ruleD, r1, q]; (repeat (first | refine ⟨by omega, ?_⟩ | refine ⟨True.intro, ?_⟩)))))
    refine ⟨⟨i + 1, by omega⟩, by simp only []; omega, ?_⟩
    refine Weak.list ?_ ?_; (all_goals simp (disch := omega) only [AllF, AllL, j9, q10, q9, exists_eq_left', Option.some.injEq, go_sem, seval, hd, cb, ruleD, r1, q]); (all_goals (repeat' (with_reducible apply And.intro))); (all_goals try (first | exact q5 rfl | (refine z10 ?_; omega) | (refine q5 ?_; simp; done)))
  · have : i = k := by omega
    subst this
    rw [List.getD_eq_getElem?_getD, List.getElem?_eq_getElem hlt, Option.getD_some, hge] at r1
    have q : ((n : Int) == (n : Int)) = true := ieq_tt rfl
    (repeat (first | refine j0 ?_ | refine j6 rfl ?_ | refine q7 rfl ?_ | refine q6 ?_ | (refine z2 fun K hK => ?_) | (refine x3 (by kernel_rfl) (by kernel_rfl) fun K hK => ?_) | ((first | refine x5 ?_ | refine j5 ?_ | ((first | refine z1 (hK _ ?_) | refine j4 (hK _ _ (x4 (by kernel_rfl)) ?_)); clear hK K)); (first | show AWP _ _ _ _ _ | ((try simp only [j7]); first | show loopQ _ _ _ _ _ _ | show cutQ _ _ _ _ | show AWP _ _ _ _ _))) | ((first | refine z7 [] rfl ?_ | refine x7 [] rfl ?_); simp (maxSteps := 2000000) (disch := omega) only [go_sem, seval, hd, cb, ruleD, r1, q]; (repeat (first | refine ⟨by omega, ?_⟩ | refine ⟨True.intro, ?_⟩)))))
    refine x8 ⟨_, ?_, rfl⟩; rw [Try.results49]; simp (disch := omega) only [ResVars, ResVar, ptrLoc, go_sem, seval, hd, cb, ruleD, r1, q]
def seenR (l : List Rule) (n : Nat) : List Cube × Int := withoutR l ((orderR l).take ((orderR l).idxOf n)) [(l.getD n r0).mt]
def missedR (l : List Rule) : List Cube × Int := withoutR l (orderR l) [⟨0, 0⟩]
theorem rowI_take (o : List Nat) (k i : Nat) (hi : i < k) : rowI o i = rowI (o.take k) i := by
  unfold rowI
  rw [List.getD_eq_getElem?_getD, List.getD_eq_getElem?_getD, List.getElem?_take_of_lt hi]
theorem rowC_one (c : Cube) (i : Nat) (hi : i < 1) : (fun i => [cb c].getD i []) i = rowC [c] i := by
  have : i = 0 := by omega
  subst this; rfl
theorem WithoutS_c (l : List Rule) (n : Nat) (hl : l.length ≤ 1099511627776) (hn : n < l.length) :
    ACalls Try.prog 48 [.d (.sl 12 l.length (rowR l)), .d (.sl 1 ((orderR l).idxOf n) (rowI (orderR l))), .d (.sl 4 1 fun i => [cb (l.getD n r0).mt].getD i [])] (· = [.d (.sl 4 (seenR l n).1.length (rowC (seenR l n).1)), .d (.v (.int .i64 (seenR l n).2))]) := by
  have hk : (orderR l).idxOf n ≤ (orderR l).length := List.idxOf_le_length
  have e : ((orderR l).take ((orderR l).idxOf n)).length = (orderR l).idxOf n := by rw [List.length_take]; exact Nat.min_eq_left hk
  have k := Without_c l ((orderR l).take ((orderR l).idxOf n)) [(l.getD n r0).mt] hl (fun n hn => orderR_lt (List.mem_of_mem_take hn)) (by rw [e]; rw [orderR_len] at hk; omega) (by simp) (fun hs k hk => by simp at hk; subst hk; exact soundL_at hs hn)
  rw [e] at k
  exact acalls_le (.cons (ple_refl _) (.cons (ple_sl rfl fun i hi => rowI_take _ _ i hi) (.cons (ple_sl rfl fun i hi => rowC_one _ i hi) .nil))) k
theorem WithoutM_c (l : List Rule) (hl : l.length ≤ 1099511627776) :
    ACalls Try.prog 48 [.d (.sl 12 l.length (rowR l)), .d (.sl 1 l.length (rowI (orderR l))), .d (.sl 4 1 fun i => [cb ⟨0, 0⟩].getD i [])] (· = [.d (.sl 4 (missedR l).1.length (rowC (missedR l).1)), .d (.v (.int .i64 (missedR l).2))]) := by
  have k := Without_c l (orderR l) [⟨0, 0⟩] hl (fun n hn => orderR_lt hn) (by rw [orderR_len]; omega) (by simp) (fun hs k hk => by simp at hk; subst hk; rfl)
  rw [orderR_len] at k
  exact acalls_le (.cons (ple_refl _) (.cons (ple_refl _) (.cons (ple_sl rfl fun i hi => rowC_one _ i hi) .nil))) k
set_option maxRecDepth 100000 in
theorem Seen_c (l : List Rule) (n : Nat) (hl : l.length ≤ 1099511627776) (hn : n < l.length) :
    ACalls Try.prog 27 [.d (.sl 12 l.length (rowR l)), .d (.v (.int .i64 (n : Int)))] (· = [.d (.sl 4 (seenR l n).1.length (rowC (seenR l n).1)), .d (.v (.int .i64 (seenR l n).2))]) := by
  have k1 := Look_c l hl
  have k2 := IndexO_c (orderR l) n (orderR_mem.2 hn) (by rw [orderR_len]; omega)
  rw [orderR_len] at k2
  have k3 := WithoutS_c l n hl hn
  have hk : (orderR l).idxOf n ≤ l.length := by have := List.idxOf_le_length (l := orderR l) (a := n); rw [orderR_len] at this; exact this
  have r1 := rowR_at l n
  generalize l.getD n r0 = x at r1 k3
  generalize seenR l n = R at k3 ⊢
  generalize (orderR l).idxOf n = m at *
  unfold cb at k3
  refine q11 Try.func27 rfl (by decide +kernel) (by rw [Try.ntmps27]; simp) ?_; rw [Try.ntmps27]; simp only [frOf]
  (repeat (first | refine j0 ?_ | refine j6 rfl ?_ | refine q7 rfl ?_ | refine q6 ?_ | (refine z2 fun K hK => ?_) | (refine x3 (by kernel_rfl) (by kernel_rfl) fun K hK => ?_) | ((first | refine x5 ?_ | refine j5 ?_ | ((first | refine z1 (hK _ ?_) | refine j4 (hK _ _ (x4 (by kernel_rfl)) ?_)); clear hK K)); (first | show AWP _ _ _ _ _ | ((try simp only [j7]); first | show loopQ _ _ _ _ _ _ | show cutQ _ _ _ _ | show AWP _ _ _ _ _))) | ((first | refine x10 rfl rfl rfl ?_ | refine j10 rfl rfl rfl ?_); simp (maxSteps := 2000000) (disch := omega) only [go_sem, seval, hd, cb, ruleD, r1]; (first | refine ⟨_, k1, ?_⟩ | refine ⟨_, k2, ?_⟩ | refine ⟨_, k3, ?_⟩)) | ((first | refine z7 [] rfl ?_ | refine x7 [] rfl ?_); simp (maxSteps := 2000000) (disch := omega) only [go_sem, seval, hd, cb, ruleD, r1]; (repeat (first | refine ⟨by omega, ?_⟩ | refine ⟨True.intro, ?_⟩)))))
  refine x8 ⟨_, ?_, rfl⟩; rw [Try.results27]; simp (disch := omega) only [ResVars, ResVar, ptrLoc, go_sem, seval, hd, cb, ruleD, r1]
theorem SeenOut_c (l : List Rule) (n : Int) (hl : l.length ≤ 1099511627776) (hn : n < 0 ∨ (l.length : Int) ≤ n) :
    ACalls Try.prog 27 [.d (.sl 12 l.length (rowR l)), .d (.v (.int .i64 n))] (· = [.d (.sl 4 0 (rowC [])), .d (.v (.int .i64 4))]) := by
  by_cases h : n < 0
  · refine q11 Try.func27 rfl (by decide +kernel) (by rw [Try.ntmps27]; simp) ?_; rw [Try.ntmps27]; simp only [frOf]
    (repeat (first | refine j0 ?_ | refine j6 rfl ?_ | refine q7 rfl ?_ | refine q6 ?_ | (refine z2 fun K hK => ?_) | (refine x3 (by kernel_rfl) (by kernel_rfl) fun K hK => ?_) | ((first | refine x5 ?_ | refine j5 ?_ | ((first | refine z1 (hK _ ?_) | refine j4 (hK _ _ (x4 (by kernel_rfl)) ?_)); clear hK K)); (first | show AWP _ _ _ _ _ | ((try simp only [j7]); first | show loopQ _ _ _ _ _ _ | show cutQ _ _ _ _ | show AWP _ _ _ _ _))) | ((first | refine z7 [] rfl ?_ | refine x7 [] rfl ?_); simp (maxSteps := 2000000) (disch := omega) only [go_sem, seval, hd, cb, ruleD]; (repeat (first | refine ⟨by omega, ?_⟩ | refine ⟨True.intro, ?_⟩)))))
    refine awp_slot 4 _ (.p (.d (.sl 4 0 (rowC [])))) rfl (le_nil _ _ _ rfl) ?_
    refine x8 ⟨_, ?_, rfl⟩; rw [Try.results27]; simp (disch := omega) only [ResVars, ResVar, ptrLoc, go_sem, seval, hd, cb, ruleD]
  · refine q11 Try.func27 rfl (by decide +kernel) (by rw [Try.ntmps27]; simp) ?_; rw [Try.ntmps27]; simp only [frOf]
    (repeat (first | refine j0 ?_ | refine j6 rfl ?_ | refine q7 rfl ?_ | refine q6 ?_ | (refine z2 fun K hK => ?_) | (refine x3 (by kernel_rfl) (by kernel_rfl) fun K hK => ?_) | ((first | refine x5 ?_ | refine j5 ?_ | ((first | refine z1 (hK _ ?_) | refine j4 (hK _ _ (x4 (by kernel_rfl)) ?_)); clear hK K)); (first | show AWP _ _ _ _ _ | ((try simp only [j7]); first | show loopQ _ _ _ _ _ _ | show cutQ _ _ _ _ | show AWP _ _ _ _ _))) | ((first | refine z7 [] rfl ?_ | refine x7 [] rfl ?_); simp (maxSteps := 2000000) (disch := omega) only [go_sem, seval, hd, cb, ruleD]; (repeat (first | refine ⟨by omega, ?_⟩ | refine ⟨True.intro, ?_⟩)))))
    refine awp_slot 4 _ (.p (.d (.sl 4 0 (rowC [])))) rfl (le_nil _ _ _ rfl) ?_
    refine x8 ⟨_, ?_, rfl⟩; rw [Try.results27]; simp (disch := omega) only [ResVars, ResVar, ptrLoc, go_sem, seval, hd, cb, ruleD]
set_option maxRecDepth 100000 in
theorem Missed_c (l : List Rule) (hl : l.length ≤ 1099511627776) :
    ACalls Try.prog 28 [.d (.sl 12 l.length (rowR l))] (· = [.d (.sl 4 (missedR l).1.length (rowC (missedR l).1)), .d (.v (.int .i64 (missedR l).2))]) := by
  have k1 := Look_c l hl
  have k2 := All_c
  have k3 := WithoutM_c l hl
  generalize missedR l = R at k3 ⊢
  unfold cb at k3 k2
  refine q11 Try.func28 rfl (by decide +kernel) (by rw [Try.ntmps28]; simp) ?_; rw [Try.ntmps28]; simp only [frOf]
  (repeat (first | refine j0 ?_ | refine j6 rfl ?_ | refine q7 rfl ?_ | refine q6 ?_ | (refine z2 fun K hK => ?_) | (refine x3 (by kernel_rfl) (by kernel_rfl) fun K hK => ?_) | ((first | refine x5 ?_ | refine j5 ?_ | ((first | refine z1 (hK _ ?_) | refine j4 (hK _ _ (x4 (by kernel_rfl)) ?_)); clear hK K)); (first | show AWP _ _ _ _ _ | ((try simp only [j7]); first | show loopQ _ _ _ _ _ _ | show cutQ _ _ _ _ | show AWP _ _ _ _ _))) | ((first | refine x10 rfl rfl rfl ?_ | refine j10 rfl rfl rfl ?_); simp (maxSteps := 2000000) (disch := omega) only [go_sem, seval, hd, cb, ruleD]; (first | refine ⟨_, k1, ?_⟩ | refine ⟨_, k2, ?_⟩ | refine ⟨_, k3, ?_⟩)) | ((first | refine z7 [] rfl ?_ | refine x7 [] rfl ?_); simp (maxSteps := 2000000) (disch := omega) only [go_sem, seval, hd, cb, ruleD]; (repeat (first | refine ⟨by omega, ?_⟩ | refine ⟨True.intro, ?_⟩)))))
  refine x8 ⟨_, ?_, rfl⟩; rw [Try.results28]; simp (disch := omega) only [ResVars, ResVar, ptrLoc, go_sem, seval, hd, cb, ruleD]
def idleGo (l : List Rule) : Nat → Nat → List Nat → List Nat × Int
  | 0, _, out => (out, 0)
  | m + 1, i, out => if (seenR l i).2 = 0 then (if (seenR l i).1.length = 0 then idleGo l m (i + 1) (out ++ [i]) else idleGo l m (i + 1) out) else ([], (seenR l i).2)
def idleR (l : List Rule) : List Nat × Int := idleGo l l.length 0 []
def idleI (l : List Rule) (R : List Nat × Int) (s : {s : Nat × List Nat // s.1 ≤ l.length ∧ s.2.length ≤ s.1 ∧ idleGo l (l.length - s.1) s.1 s.2 = R}) : ASt :=
  ⟨[(10, .p (.d (.v (.int .i64 (s.val.1 : Int))))), (9, .p (.d (.v (.int .i64 (l.length : Int))))), (4, .gr 4 s.val.2.length 1 s.val.2.length (rowI s.val.2)), (0, .p (.d (.sl 12 l.length (rowR l))))], [(4, .grow 3 1 s.val.2.length s.val.2.length)]⟩
set_option maxRecDepth 100000 in
set_option maxHeartbeats 4000000 in
theorem Idle_c (l : List Rule) (hl : l.length ≤ 1099511627776) :
    ACalls Try.prog 21 [.d (.sl 12 l.length (rowR l))] (· = [.d (.sl 1 (idleR l).1.length (rowI (idleR l).1)), .d (.v (.int .i64 (idleR l).2))]) := by
  unfold idleR
  obtain ⟨R, hR⟩ : ∃ R, idleGo l l.length 0 [] = R := ⟨_, rfl⟩
  rw [hR]
  refine q11 Try.func21 rfl (by decide +kernel) (by rw [Try.ntmps21]; simp) ?_; rw [Try.ntmps21]; simp only [frOf]
  (repeat (first | refine j0 ?_ | refine j6 rfl ?_ | refine q7 rfl ?_ | refine q6 ?_ | (refine z2 fun K hK => ?_) | (refine x3 (by kernel_rfl) (by kernel_rfl) fun K hK => ?_) | ((first | refine x5 ?_ | refine j5 ?_ | ((first | refine z1 (hK _ ?_) | refine j4 (hK _ _ (x4 (by kernel_rfl)) ?_)); clear hK K)); (first | show AWP _ _ _ _ _ | ((try simp only [j7]); first | show loopQ _ _ _ _ _ _ | show cutQ _ _ _ _ | show AWP _ _ _ _ _))) | ((first | refine z7 [] rfl ?_ | refine x7 [] rfl ?_); simp (maxSteps := 2000000) (disch := omega) only [go_sem, seval, hd, cb, ruleD]; (repeat (first | refine ⟨by omega, ?_⟩ | refine ⟨True.intro, ?_⟩)))))
  refine awp_grow 4 4 1 3 (rowI []) rfl (by kernel_rfl) rfl ?_
  refine awp_loop (idleI l R) (fun s => l.length - s.val.1) ⟨(0, []), by simp, by simp, hR⟩ ?_ (fun s => ?_)
  · unfold idleI
    refine Weak.list ?_ ?_; (all_goals simp (disch := omega) only [AllF, AllL, j9, q10, q9, exists_eq_left', Option.some.injEq, go_sem, seval, hd, cb, ruleD]); (all_goals (repeat' (with_reducible apply And.intro))); (all_goals try (first | exact q5 rfl | (refine z10 ?_; omega) | (refine q5 ?_; simp; done)))
  obtain ⟨⟨i, out⟩, h1, h2, he⟩ := s
  unfold idleI
  simp only [] at h1 h2 he
  by_cases hn : i < l.length
  · have ks := Seen_c l i hl hn
    obtain ⟨m, hm⟩ : ∃ m, l.length - i = m + 1 := ⟨l.length - i - 1, by omega⟩
    have hm' : m = l.length - (i + 1) := by omega
    rw [hm] at he
    unfold idleGo at he
    generalize seenR l i = u at ks he
    obtain ⟨u, e⟩ := u
    simp only [] at ks he
    by_cases h0 : e = 0
    · subst h0
      rw [if_pos rfl] at he
      by_cases hu : u.length = 0
      · rw [if_pos hu] at he
        have q : ((u.length : Int) == 0) = true := ieq_tt (by omega)
        (repeat (first | refine j0 ?_ | refine j6 rfl ?_ | refine q7 rfl ?_ | refine q6 ?_ | (refine z2 fun K hK => ?_) | (refine x3 (by kernel_rfl) (by kernel_rfl) fun K hK => ?_) | ((first | refine x5 ?_ | refine j5 ?_ | ((first | refine z1 (hK _ ?_) | refine j4 (hK _ _ (x4 (by kernel_rfl)) ?_)); clear hK K)); (first | show AWP _ _ _ _ _ | ((try simp only [j7]); first | show loopQ _ _ _ _ _ _ | show cutQ _ _ _ _ | show AWP _ _ _ _ _))) | ((first | refine x10 rfl rfl rfl ?_ | refine j10 rfl rfl rfl ?_); simp (maxSteps := 2000000) (disch := omega) only [go_sem, seval, hd, cb, ruleD, q]; (first | refine ⟨_, ks, ?_⟩)) | ((first | refine z7 [] rfl ?_ | refine x7 [] rfl ?_); simp (maxSteps := 2000000) (disch := omega) only [go_sem, seval, hd, cb, ruleD, q]; (repeat (first | refine ⟨by omega, ?_⟩ | refine ⟨True.intro, ?_⟩)))))
        refine ⟨⟨(i + 1, out ++ [i]), by simp only []; omega, by simp only [List.length_append, List.length_singleton]; omega, by rw [← hm']; exact he⟩, by simp only []; omega, ?_⟩
        simp only [List.length_append, List.length_singleton]
        refine Weak.list ?_ ?_; (all_goals simp (disch := omega) only [AllF, AllL, j9, q10, q9, exists_eq_left', Option.some.injEq, go_sem, seval, hd, cb, ruleD, q]); (all_goals (repeat' (with_reducible apply And.intro))); (all_goals try (first | exact q5 rfl | (refine z10 ?_; omega) | (refine q5 ?_; simp; done)))
        exact le_grgr rfl rfl (fun k hk => rowI_put out i k hk)
      · rw [if_neg hu] at he
        have q : ((u.length : Int) == 0) = false := ieq_ff (by omega)
        (repeat (first | refine j0 ?_ | refine j6 rfl ?_ | refine q7 rfl ?_ | refine q6 ?_ | (refine z2 fun K hK => ?_) | (refine x3 (by kernel_rfl) (by kernel_rfl) fun K hK => ?_) | ((first | refine x5 ?_ | refine j5 ?_ | ((first | refine z1 (hK _ ?_) | refine j4 (hK _ _ (x4 (by kernel_rfl)) ?_)); clear hK K)); (first | show AWP _ _ _ _ _ | ((try simp only [j7]); first | show loopQ _ _ _ _ _ _ | show cutQ _ _ _ _ | show AWP _ _ _ _ _))) | ((first | refine x10 rfl rfl rfl ?_ | refine j10 rfl rfl rfl ?_); simp (maxSteps := 2000000) (disch := omega) only [go_sem, seval, hd, cb, ruleD, q]; (first | refine ⟨_, ks, ?_⟩)) | ((first | refine z7 [] rfl ?_ | refine x7 [] rfl ?_); simp (maxSteps := 2000000) (disch := omega) only [go_sem, seval, hd, cb, ruleD, q]; (repeat (first | refine ⟨by omega, ?_⟩ | refine ⟨True.intro, ?_⟩)))))
        refine ⟨⟨(i + 1, out), by simp only []; omega, by simp only []; omega, by rw [← hm']; exact he⟩, by simp only []; omega, ?_⟩
        refine Weak.list ?_ ?_; (all_goals simp (disch := omega) only [AllF, AllL, j9, q10, q9, exists_eq_left', Option.some.injEq, go_sem, seval, hd, cb, ruleD, q]); (all_goals (repeat' (with_reducible apply And.intro))); (all_goals try (first | exact q5 rfl | (refine z10 ?_; omega) | (refine q5 ?_; simp; done)))
    · rw [if_neg h0] at he
      have q : (e != 0) = true := ine_tt h0
      (repeat (first | refine j0 ?_ | refine j6 rfl ?_ | refine q7 rfl ?_ | refine q6 ?_ | (refine z2 fun K hK => ?_) | (refine x3 (by kernel_rfl) (by kernel_rfl) fun K hK => ?_) | ((first | refine x5 ?_ | refine j5 ?_ | ((first | refine z1 (hK _ ?_) | refine j4 (hK _ _ (x4 (by kernel_rfl)) ?_)); clear hK K)); (first | show AWP _ _ _ _ _ | ((try simp only [j7]); first | show loopQ _ _ _ _ _ _ | show cutQ _ _ _ _ | show AWP _ _ _ _ _))) | ((first | refine x10 rfl rfl rfl ?_ | refine j10 rfl rfl rfl ?_); simp (maxSteps := 2000000) (disch := omega) only [go_sem, seval, hd, cb, ruleD, q]; (first | refine ⟨_, ks, ?_⟩)) | ((first | refine z7 [] rfl ?_ | refine x7 [] rfl ?_); simp (maxSteps := 2000000) (disch := omega) only [go_sem, seval, hd, cb, ruleD, q]; (repeat (first | refine ⟨by omega, ?_⟩ | refine ⟨True.intro, ?_⟩)))))
      refine awp_slot 2 _ (.p (.d (.sl 1 0 (rowI [])))) rfl (le_nil _ _ _ rfl) ?_
      subst he
      refine x8 ⟨_, ?_, rfl⟩; rw [Try.results21]; simp (disch := omega) only [ResVars, ResVar, ptrLoc, go_sem, seval, hd, cb, ruleD, q]
  · have : i = l.length := by omega
    subst this
    rw [Nat.sub_self] at he
    unfold idleGo at he
    subst he
    (repeat (first | refine j0 ?_ | refine j6 rfl ?_ | refine q7 rfl ?_ | refine q6 ?_ | (refine z2 fun K hK => ?_) | (refine x3 (by kernel_rfl) (by kernel_rfl) fun K hK => ?_) | ((first | refine x5 ?_ | refine j5 ?_ | ((first | refine z1 (hK _ ?_) | refine j4 (hK _ _ (x4 (by kernel_rfl)) ?_)); clear hK K)); (first | show AWP _ _ _ _ _ | ((try simp only [j7]); first | show loopQ _ _ _ _ _ _ | show cutQ _ _ _ _ | show AWP _ _ _ _ _))) | ((first | refine z7 [] rfl ?_ | refine x7 [] rfl ?_); simp (maxSteps := 2000000) (disch := omega) only [go_sem, seval, hd, cb, ruleD]; (repeat (first | refine ⟨by omega, ?_⟩ | refine ⟨True.intro, ?_⟩)))))
    refine awp_slot 2 _ (.p (.d (.sl 1 out.length (rowI out)))) rfl (le_gr rfl fun _ _ => rfl) ?_
    refine x8 ⟨_, ?_, rfl⟩; rw [Try.results21]; simp (disch := omega) only [ResVars, ResVar, ptrLoc, go_sem, seval, hd, cb, ruleD]
end Go.Proofs.Ytbiildleaelodaa
set_option linter.unusedSimpArgs false
set_option linter.unusedVariables false
namespace Go.Proofs.Ytbiildleaelodaa
open Go.Proofs.Ytbiildleaelodaa.AL
def leanTI (L : List Cube) (s : {s : Nat × List Cube // s.1 ≤ L.length ∧ s.2 = leanTo L s.1}) : ASt :=
  ⟨[(4, .p (.d (.v (.int .i64 (s.val.1 : Int))))), (3, .gr 7 s.val.2.length 1 s.val.2.length (rowT s.val.2)), (0, .p (.d (.sl 1 L.length (rowT L))))], [(7, .grow 9 1 s.val.2.length s.val.2.length)]⟩
def leanTJ (L : List Cube) (i : Nat) (out : List Cube) (s : {s : Nat × Bool // s.1 ≤ L.length ∧ s.2 = (List.range s.1).any (spareBy L i)}) : ASt :=
  ⟨[(6, .p (.d (.v (.int .i64 (s.val.1 : Int))))), (5, .p (.d (.v (.bool s.val.2)))), (4, .p (.d (.v (.int .i64 (i : Int))))), (3, .gr 7 out.length 1 out.length (rowT out)), (0, .p (.d (.sl 1 L.length (rowT L))))], [(7, .grow 9 1 out.length out.length)]⟩
set_option maxRecDepth 100000 in
set_option maxHeartbeats 2000000 in
theorem LeanT_c (L : List Cube) (hs : ∀ k ∈ L, k.sound = true) (hl : L.length ≤ 1099511627776) : ACalls Try.prog 70 [.d (.sl 1 L.length (rowT L))] (· = [.d (.sl 1 (leanP L).length (rowT (leanP L)))]) := by
  refine q11 Try.func70 rfl (by decide +kernel) (by rw [Try.ntmps70]; simp) ?_; rw [Try.ntmps70]; simp only [frOf]
  (repeat (first | refine j0 ?_ | refine j6 rfl ?_ | refine q7 rfl ?_ | refine q6 ?_ | (refine z2 fun K hK => ?_) | (refine x3 (by kernel_rfl) (by kernel_rfl) fun K hK => ?_) | ((first | refine x5 ?_ | refine j5 ?_ | ((first | refine z1 (hK _ ?_) | refine j4 (hK _ _ (x4 (by kernel_rfl)) ?_)); clear hK K)); (first | show AWP _ _ _ _ _ | ((try simp only [j7]); first | show loopQ _ _ _ _ _ _ | show cutQ _ _ _ _ | show AWP _ _ _ _ _))) | ((first | refine z7 [7] rfl ?_ | refine x7 [7] rfl ?_); simp (maxSteps := 2000000) (disch := omega) only [go_sem, seval, hd, cb, z6, x6]; (repeat (first | refine ⟨by omega, ?_⟩ | refine ⟨True.intro, ?_⟩)))))
  refine awp_loop (leanTI L) (fun s => L.length - s.val.1) ⟨(0, []), by simp, by simp [leanTo]⟩ ?_ (fun s => ?_)
  · unfold leanTI
    refine Weak.list ?_ ?_; (all_goals simp (disch := omega) only [AllF, AllL, j9, q10, q9, exists_eq_left', Option.some.injEq, go_sem, seval, hd, cb, z6, x6]); (all_goals (repeat' (with_reducible apply And.intro))); (all_goals try (first | exact q5 rfl | (refine z10 ?_; omega) | (refine q5 ?_; simp; done)))
    exact le_grgr rfl rfl (fun i hi => by omega)
  obtain ⟨⟨i, out⟩, hi, he⟩ := s
  unfold leanTI
  simp only [] at hi he
  have ho := leanTo_len L i
  rw [← he] at ho
  by_cases hn : i < L.length
  · have rn := rowT_of L i
    have sn := hs _ (getD_in hn ⟨0, 0⟩)
    have st := leanTo_succ L i
    rw [← he] at st
    obtain ⟨N, hN⟩ : ∃ N, L.getD i ⟨0, 0⟩ = N := ⟨_, rfl⟩
    rw [hN] at rn sn st
    (repeat (first | refine j0 ?_ | refine j6 rfl ?_ | refine q7 rfl ?_ | refine q6 ?_ | (refine z2 fun K hK => ?_) | (refine x3 (by kernel_rfl) (by kernel_rfl) fun K hK => ?_) | ((first | refine x5 ?_ | refine j5 ?_ | ((first | refine z1 (hK _ ?_) | refine j4 (hK _ _ (x4 (by kernel_rfl)) ?_)); clear hK K)); (first | show AWP _ _ _ _ _ | ((try simp only [j7]); first | show loopQ _ _ _ _ _ _ | show cutQ _ _ _ _ | show AWP _ _ _ _ _))) | ((first | refine z7 [7] rfl ?_ | refine x7 [7] rfl ?_); simp (maxSteps := 2000000) (disch := omega) only [go_sem, seval, hd, cb, z6, x6]; (repeat (first | refine ⟨by omega, ?_⟩ | refine ⟨True.intro, ?_⟩)))))
    refine awp_loop (leanTJ L i out) (fun s => L.length - s.val.1) ⟨(0, false), by simp, by simp⟩ ?_ (fun s => ?_)
    · unfold leanTJ
      refine Weak.list ?_ ?_; (all_goals simp (disch := omega) only [AllF, AllL, j9, q10, q9, exists_eq_left', Option.some.injEq, go_sem, seval, hd, cb, z6, x6]); (all_goals (repeat' (with_reducible apply And.intro))); (all_goals try (first | exact q5 rfl | (refine z10 ?_; omega) | (refine q5 ?_; simp; done)))
    obtain ⟨⟨j, sp⟩, hj, he2⟩ := s
    unfold leanTJ
    simp only [] at hj he2
    by_cases hm : j < L.length ∧ sp = false
    · obtain ⟨hm, rfl⟩ := hm
      have rj := rowT_of L j
      have sj := hs _ (getD_in hm ⟨0, 0⟩)
      have sb : spareBy L i j = (j != i && (withinC N (L.getD j ⟨0, 0⟩) && (N != L.getD j ⟨0, 0⟩ || decide (j < i)))) := by unfold spareBy; rw [hN]
      have ar := any_range_succ (spareBy L i) j
      rw [← he2, Bool.false_or] at ar
      generalize L.getD j ⟨0, 0⟩ = K at rj sj sb
      have wt := WithinT_c N K
      have hwo : withinT N K = withinC N K := by unfold withinC withinT; rw [sn, sj]; rfl
      have tb := txt_beq sn sj
      have nb : (N != K) = !(N == K) := rfl
      rw [hwo] at wt
      rw [nb] at sb
      generalize txt N = tN at rn wt tb
      generalize txt K = tK at rj wt tb
      by_cases hji : j = i
      · subst hji
        have h0 : spareBy L j j = false := by rw [sb]; simp
        rw [h0] at ar
        have q : ((j : Int) != (j : Int)) = false := by simp
        (repeat (first | refine j0 ?_ | refine j6 rfl ?_ | refine q7 rfl ?_ | refine q6 ?_ | (refine z2 fun K hK => ?_) | (refine x3 (by kernel_rfl) (by kernel_rfl) fun K hK => ?_) | ((first | refine x5 ?_ | refine j5 ?_ | ((first | refine z1 (hK _ ?_) | refine j4 (hK _ _ (x4 (by kernel_rfl)) ?_)); clear hK K)); (first | show AWP _ _ _ _ _ | ((try simp only [j7]); first | show loopQ _ _ _ _ _ _ | show cutQ _ _ _ _ | show AWP _ _ _ _ _))) | ((first | refine x10 rfl rfl rfl ?_ | refine j10 rfl rfl rfl ?_); simp (maxSteps := 2000000) (disch := omega) only [go_sem, seval, hd, cb, z6, x6, q]; (first | refine ⟨_, wt, ?_⟩)) | ((first | refine z7 [7] rfl ?_ | refine x7 [7] rfl ?_); simp (maxSteps := 2000000) (disch := omega) only [go_sem, seval, hd, cb, z6, x6, q]; (repeat (first | refine ⟨by omega, ?_⟩ | refine ⟨True.intro, ?_⟩)))))
        refine ⟨⟨(j + 1, false), by simp only []; omega, ar.symm⟩, by simp only []; omega, ?_⟩
        refine Weak.list ?_ ?_; (all_goals simp (disch := omega) only [AllF, AllL, j9, q10, q9, exists_eq_left', Option.some.injEq, go_sem, seval, hd, cb, z6, x6, q]); (all_goals (repeat' (with_reducible apply And.intro))); (all_goals try (first | exact q5 rfl | (refine z10 ?_; omega) | (refine q5 ?_; simp; done)))
      · have q : ((j : Int) != (i : Int)) = true := by simp; omega
        have q2 : (j != i) = true := by simpa using hji
        rw [q2, Bool.true_and] at sb
        cases hw : withinC N K
        · rw [hw] at wt sb
          rw [sb] at ar
          (repeat (first | refine j0 ?_ | refine j6 rfl ?_ | refine q7 rfl ?_ | refine q6 ?_ | (refine z2 fun K hK => ?_) | (refine x3 (by kernel_rfl) (by kernel_rfl) fun K hK => ?_) | ((first | refine x5 ?_ | refine j5 ?_ | ((first | refine z1 (hK _ ?_) | refine j4 (hK _ _ (x4 (by kernel_rfl)) ?_)); clear hK K)); (first | show AWP _ _ _ _ _ | ((try simp only [j7]); first | show loopQ _ _ _ _ _ _ | show cutQ _ _ _ _ | show AWP _ _ _ _ _))) | ((first | refine x10 rfl rfl rfl ?_ | refine j10 rfl rfl rfl ?_); simp (maxSteps := 2000000) (disch := omega) only [go_sem, seval, hd, cb, z6, x6, rn, rj, q]; (first | refine ⟨_, wt, ?_⟩)) | ((first | refine z7 [7] rfl ?_ | refine x7 [7] rfl ?_); simp (maxSteps := 2000000) (disch := omega) only [go_sem, seval, hd, cb, z6, x6, rn, rj, q]; (repeat (first | refine ⟨by omega, ?_⟩ | refine ⟨True.intro, ?_⟩)))))
          refine ⟨⟨(j + 1, false), by simp only []; omega, ar.symm⟩, by simp only []; omega, ?_⟩
          refine Weak.list ?_ ?_; (all_goals simp (disch := omega) only [AllF, AllL, j9, q10, q9, exists_eq_left', Option.some.injEq, go_sem, seval, hd, cb, z6, x6, rn, rj, q]); (all_goals (repeat' (with_reducible apply And.intro))); (all_goals try (first | exact q5 rfl | (refine z10 ?_; omega) | (refine q5 ?_; simp; done)))
        · rw [hw] at wt
          rw [hw, Bool.true_and] at sb
          cases hq : (N == K)
          · rw [hq] at tb sb
            rw [sb] at ar
            (repeat (first | refine j0 ?_ | refine j6 rfl ?_ | refine q7 rfl ?_ | refine q6 ?_ | (refine z2 fun K hK => ?_) | (refine x3 (by kernel_rfl) (by kernel_rfl) fun K hK => ?_) | ((first | refine x5 ?_ | refine j5 ?_ | ((first | refine z1 (hK _ ?_) | refine j4 (hK _ _ (x4 (by kernel_rfl)) ?_)); clear hK K)); (first | show AWP _ _ _ _ _ | ((try simp only [j7]); first | show loopQ _ _ _ _ _ _ | show cutQ _ _ _ _ | show AWP _ _ _ _ _))) | ((first | refine x10 rfl rfl rfl ?_ | refine j10 rfl rfl rfl ?_); simp (maxSteps := 2000000) (disch := omega) only [go_sem, seval, hd, cb, z6, x6, rn, rj, q, tb]; (first | refine ⟨_, wt, ?_⟩)) | ((first | refine z7 [7] rfl ?_ | refine x7 [7] rfl ?_); simp (maxSteps := 2000000) (disch := omega) only [go_sem, seval, hd, cb, z6, x6, rn, rj, q, tb]; (repeat (first | refine ⟨by omega, ?_⟩ | refine ⟨True.intro, ?_⟩)))))
            refine ⟨⟨(j + 1, true), by simp only []; omega, ar.symm⟩, by simp only []; omega, ?_⟩
            refine Weak.list ?_ ?_; (all_goals simp (disch := omega) only [AllF, AllL, j9, q10, q9, exists_eq_left', Option.some.injEq, go_sem, seval, hd, cb, z6, x6, rn, rj, q, tb]); (all_goals (repeat' (with_reducible apply And.intro))); (all_goals try (first | exact q5 rfl | (refine z10 ?_; omega) | (refine q5 ?_; simp; done)))
          · rw [hq] at tb sb
            by_cases hl2 : j < i
            · rw [decide_eq_true hl2] at sb
              rw [sb] at ar
              (repeat (first | refine j0 ?_ | refine j6 rfl ?_ | refine q7 rfl ?_ | refine q6 ?_ | (refine z2 fun K hK => ?_) | (refine x3 (by kernel_rfl) (by kernel_rfl) fun K hK => ?_) | ((first | refine x5 ?_ | refine j5 ?_ | ((first | refine z1 (hK _ ?_) | refine j4 (hK _ _ (x4 (by kernel_rfl)) ?_)); clear hK K)); (first | show AWP _ _ _ _ _ | ((try simp only [j7]); first | show loopQ _ _ _ _ _ _ | show cutQ _ _ _ _ | show AWP _ _ _ _ _))) | ((first | refine x10 rfl rfl rfl ?_ | refine j10 rfl rfl rfl ?_); simp (maxSteps := 2000000) (disch := omega) only [go_sem, seval, hd, cb, z6, x6, rn, rj, q, tb]; (first | refine ⟨_, wt, ?_⟩)) | ((first | refine z7 [7] rfl ?_ | refine x7 [7] rfl ?_); simp (maxSteps := 2000000) (disch := omega) only [go_sem, seval, hd, cb, z6, x6, rn, rj, q, tb]; (repeat (first | refine ⟨by omega, ?_⟩ | refine ⟨True.intro, ?_⟩)))))
              refine ⟨⟨(j + 1, true), by simp only []; omega, ar.symm⟩, by simp only []; omega, ?_⟩
              refine Weak.list ?_ ?_; (all_goals simp (disch := omega) only [AllF, AllL, j9, q10, q9, exists_eq_left', Option.some.injEq, go_sem, seval, hd, cb, z6, x6, rn, rj, q, tb]); (all_goals (repeat' (with_reducible apply And.intro))); (all_goals try (first | exact q5 rfl | (refine z10 ?_; omega) | (refine q5 ?_; simp; done)))
            · rw [decide_eq_false hl2] at sb
              rw [sb] at ar
              (repeat (first | refine j0 ?_ | refine j6 rfl ?_ | refine q7 rfl ?_ | refine q6 ?_ | (refine z2 fun K hK => ?_) | (refine x3 (by kernel_rfl) (by kernel_rfl) fun K hK => ?_) | ((first | refine x5 ?_ | refine j5 ?_ | ((first | refine z1 (hK _ ?_) | refine j4 (hK _ _ (x4 (by kernel_rfl)) ?_)); clear hK K)); (first | show AWP _ _ _ _ _ | ((try simp only [j7]); first | show loopQ _ _ _ _ _ _ | show cutQ _ _ _ _ | show AWP _ _ _ _ _))) | ((first | refine x10 rfl rfl rfl ?_ | refine j10 rfl rfl rfl ?_); simp (maxSteps := 2000000) (disch := omega) only [go_sem, seval, hd, cb, z6, x6, rn, rj, q, tb]; (first | refine ⟨_, wt, ?_⟩)) | ((first | refine z7 [7] rfl ?_ | refine x7 [7] rfl ?_); simp (maxSteps := 2000000) (disch := omega) only [go_sem, seval, hd, cb, z6, x6, rn, rj, q, tb]; (repeat (first | refine ⟨by omega, ?_⟩ | refine ⟨True.intro, ?_⟩)))))
              refine ⟨⟨(j + 1, false), by simp only []; omega, ar.symm⟩, by simp only []; omega, ?_⟩
              refine Weak.list ?_ ?_; (all_goals simp (disch := omega) only [AllF, AllL, j9, q10, q9, exists_eq_left', Option.some.injEq, go_sem, seval, hd, cb, z6, x6, rn, rj, q, tb]); (all_goals (repeat' (with_reducible apply And.intro))); (all_goals try (first | exact q5 rfl | (refine z10 ?_; omega) | (refine q5 ?_; simp; done)))
    · have hsp : sp = spareP L i := by
        unfold spareP
        rw [hN, sn]
        simp only [Bool.not_true, Bool.or_false]
        by_cases hjl : j = L.length
        · rw [he2, hjl]
        · have : sp = true := by cases hsp : sp; exact absurd ⟨by omega, hsp⟩ hm; rfl
          rw [this] at he2 ⊢
          symm
          obtain ⟨k, hk, hk2⟩ := List.any_eq_true.1 he2.symm
          have := List.mem_range.1 hk
          exact List.any_eq_true.2 ⟨k, List.mem_range.2 (by omega), hk2⟩
      rw [← hsp] at st
      cases sp
      · have hjl : j = L.length := by
          refine Classical.byContradiction fun hne => hm ⟨by omega, rfl⟩
        subst hjl
        simp only [Bool.false_eq_true, if_false] at st
        (repeat (first | refine j0 ?_ | refine j6 rfl ?_ | refine q7 rfl ?_ | refine q6 ?_ | (refine z2 fun K hK => ?_) | (refine x3 (by kernel_rfl) (by kernel_rfl) fun K hK => ?_) | ((first | refine x5 ?_ | refine j5 ?_ | ((first | refine z1 (hK _ ?_) | refine j4 (hK _ _ (x4 (by kernel_rfl)) ?_)); clear hK K)); (first | show AWP _ _ _ _ _ | ((try simp only [j7]); first | show loopQ _ _ _ _ _ _ | show cutQ _ _ _ _ | show AWP _ _ _ _ _))) | ((first | refine z7 [7] rfl ?_ | refine x7 [7] rfl ?_); simp (maxSteps := 2000000) (disch := omega) only [go_sem, seval, hd, cb, z6, x6, rn]; (repeat (first | refine ⟨by omega, ?_⟩ | refine ⟨True.intro, ?_⟩)))))
        refine ⟨⟨(i + 1, out ++ [N]), by simp only []; omega, st.symm⟩, by simp only []; omega, ?_⟩
        refine Weak.list ?_ ?_; (all_goals simp (disch := omega) only [AllF, AllL, j9, q10, q9, exists_eq_left', Option.some.injEq, go_sem, seval, hd, cb, z6, x6, rn]); (all_goals (repeat' (with_reducible apply And.intro))); (all_goals try (first | exact q5 rfl | (refine z10 ?_; omega) | (refine q5 ?_; simp; done)))
        · exact le_grgr (by simp) (by simp) (fun k hk => rowT_put out N k hk)
        · exact lle_grow (by simp) (by simp)
      · simp only [if_true, List.append_nil] at st
        by_cases hjl : j < L.length
        all_goals
          (repeat (first | refine j0 ?_ | refine j6 rfl ?_ | refine q7 rfl ?_ | refine q6 ?_ | (refine z2 fun K hK => ?_) | (refine x3 (by kernel_rfl) (by kernel_rfl) fun K hK => ?_) | ((first | refine x5 ?_ | refine j5 ?_ | ((first | refine z1 (hK _ ?_) | refine j4 (hK _ _ (x4 (by kernel_rfl)) ?_)); clear hK K)); (first | show AWP _ _ _ _ _ | ((try simp only [j7]); first | show loopQ _ _ _ _ _ _ | show cutQ _ _ _ _ | show AWP _ _ _ _ _))) | ((first | refine z7 [7] rfl ?_ | refine x7 [7] rfl ?_); simp (maxSteps := 2000000) (disch := omega) only [go_sem, seval, hd, cb, z6, x6, rn]; (repeat (first | refine ⟨by omega, ?_⟩ | refine ⟨True.intro, ?_⟩)))))
          refine ⟨⟨(i + 1, out), by simp only []; omega, st.symm⟩, by simp only []; omega, ?_⟩
          refine Weak.list ?_ ?_; (all_goals simp (disch := omega) only [AllF, AllL, j9, q10, q9, exists_eq_left', Option.some.injEq, go_sem, seval, hd, cb, z6, x6, rn]); (all_goals (repeat' (with_reducible apply And.intro))); (all_goals try (first | exact q5 rfl | (refine z10 ?_; omega) | (refine q5 ?_; simp; done)))
  · have hil : i = L.length := by omega
    subst hil
    (repeat (first | refine j0 ?_ | refine j6 rfl ?_ | refine q7 rfl ?_ | refine q6 ?_ | (refine z2 fun K hK => ?_) | (refine x3 (by kernel_rfl) (by kernel_rfl) fun K hK => ?_) | ((first | refine x5 ?_ | refine j5 ?_ | ((first | refine z1 (hK _ ?_) | refine j4 (hK _ _ (x4 (by kernel_rfl)) ?_)); clear hK K)); (first | show AWP _ _ _ _ _ | ((try simp only [j7]); first | show loopQ _ _ _ _ _ _ | show cutQ _ _ _ _ | show AWP _ _ _ _ _))) | ((first | refine z7 [7] rfl ?_ | refine x7 [7] rfl ?_); simp (maxSteps := 2000000) (disch := omega) only [go_sem, seval, hd, cb, z6, x6]; (repeat (first | refine ⟨by omega, ?_⟩ | refine ⟨True.intro, ?_⟩)))))
    refine awp_slot 2 _ (.p (.d (.sl 1 (leanP L).length (rowT (leanP L))))) rfl ?_ ?_
    · unfold leanP
      rw [← he]
      exact le_gr rfl (fun _ _ => rfl)
    refine x8 ⟨_, ?_, rfl⟩; rw [Try.results70]; simp (disch := omega) only [ResVars, ResVar, ptrLoc, go_sem, seval, hd, cb, z6, x6]
end Go.Proofs.Ytbiildleaelodaa
set_option linter.unusedSimpArgs false
set_option linter.unusedVariables false
namespace Go.Proofs.Ytbiildleaelodaa
open Go.Proofs.Ytbiildleaelodaa.AL
def sameI (l : List Cube) (i : Fin (l.length + 1)) : ASt :=
  ⟨[(5, .p (.d (.v (.int .i64 (i.val : Int))))), (1, .p (.d (.sl 1 l.length (rowT l)))), (0, .p (.d (.sl 4 l.length (rowC l))))], []⟩
theorem str_refl (s : ByteArray) : (s == s) = true := by
  have : (s.data == s.data) = true := by simp
  exact this
theorem SameR_c (l : List Cube) (hs : ∀ k ∈ l, k.sound = true) (hl : l.length ≤ 1099511627776) : ACalls Try.prog 32 [.d (.sl 4 l.length (rowC l)), .d (.sl 1 l.length (rowT l))] (· = [.d (.v (.bool true))]) := by
  refine q11 Try.func32 rfl (by decide +kernel) (by rw [Try.ntmps32]; simp) ?_; rw [Try.ntmps32]; simp only [frOf]
  (repeat (first | refine j0 ?_ | refine j6 rfl ?_ | refine q7 rfl ?_ | refine q6 ?_ | (refine z2 fun K hK => ?_) | (refine x3 (by kernel_rfl) (by kernel_rfl) fun K hK => ?_) | ((first | refine x5 ?_ | refine j5 ?_ | ((first | refine z1 (hK _ ?_) | refine j4 (hK _ _ (x4 (by kernel_rfl)) ?_)); clear hK K)); (first | show AWP _ _ _ _ _ | ((try simp only [j7]); first | show loopQ _ _ _ _ _ _ | show cutQ _ _ _ _ | show AWP _ _ _ _ _))) | ((first | refine z7 [] rfl ?_ | refine x7 [] rfl ?_); simp (maxSteps := 2000000) (disch := omega) only [go_sem, seval, hd, cb, z6, x6, bne_self_eq_false, beq_self_eq_true, Bool.not_true]; (repeat (first | refine ⟨by omega, ?_⟩ | refine ⟨True.intro, ?_⟩)))))
  refine awp_loop (sameI l) (fun i => l.length - i.val) ⟨0, by omega⟩ ?_ (fun s => ?_)
  · unfold sameI
    refine Weak.list ?_ ?_; (all_goals simp (disch := omega) only [AllF, AllL, j9, q10, q9, exists_eq_left', Option.some.injEq, go_sem, seval, hd, cb, z6, x6, bne_self_eq_false, beq_self_eq_true, Bool.not_true]); (all_goals (repeat' (with_reducible apply And.intro))); (all_goals try (first | exact q5 rfl | (refine z10 ?_; omega) | (refine q5 ?_; simp; done)))
  obtain ⟨i, hi⟩ := s
  unfold sameI
  by_cases hn : i < l.length
  · have r1 := rowC_at l i
    have r2 := rowT_of l i
    have sk := hs _ (getD_in hn ⟨0, 0⟩)
    generalize l.getD i ⟨0, 0⟩ = K at r1 r2 sk
    have tx := Text_c K
    rw [sk] at tx
    simp only [if_true] at tx
    have q := str_refl (txt K)
    generalize txt K = s at tx r2 q
    (repeat (first | refine j0 ?_ | refine j6 rfl ?_ | refine q7 rfl ?_ | refine q6 ?_ | (refine z2 fun K hK => ?_) | (refine x3 (by kernel_rfl) (by kernel_rfl) fun K hK => ?_) | ((first | refine x5 ?_ | refine j5 ?_ | ((first | refine z1 (hK _ ?_) | refine j4 (hK _ _ (x4 (by kernel_rfl)) ?_)); clear hK K)); (first | show AWP _ _ _ _ _ | ((try simp only [j7]); first | show loopQ _ _ _ _ _ _ | show cutQ _ _ _ _ | show AWP _ _ _ _ _))) | ((first | refine x10 rfl rfl rfl ?_ | refine j10 rfl rfl rfl ?_); simp (maxSteps := 2000000) (disch := omega) only [go_sem, seval, hd, cb, z6, x6, bne_self_eq_false, beq_self_eq_true, Bool.not_true, r1, r2, q]; (first | refine ⟨_, tx, ?_⟩)) | ((first | refine z7 [] rfl ?_ | refine x7 [] rfl ?_); simp (maxSteps := 2000000) (disch := omega) only [go_sem, seval, hd, cb, z6, x6, bne_self_eq_false, beq_self_eq_true, Bool.not_true, r1, r2, q]; (repeat (first | refine ⟨by omega, ?_⟩ | refine ⟨True.intro, ?_⟩)))))
    refine ⟨⟨i + 1, by omega⟩, by simp only []; omega, ?_⟩
    refine Weak.list ?_ ?_; (all_goals simp (disch := omega) only [AllF, AllL, j9, q10, q9, exists_eq_left', Option.some.injEq, go_sem, seval, hd, cb, z6, x6, bne_self_eq_false, beq_self_eq_true, Bool.not_true, r1, r2, q]); (all_goals (repeat' (with_reducible apply And.intro))); (all_goals try (first | exact q5 rfl | (refine z10 ?_; omega) | (refine q5 ?_; simp; done)))
  · have : i = l.length := by omega
    subst this
    (repeat (first | refine j0 ?_ | refine j6 rfl ?_ | refine q7 rfl ?_ | refine q6 ?_ | (refine z2 fun K hK => ?_) | (refine x3 (by kernel_rfl) (by kernel_rfl) fun K hK => ?_) | ((first | refine x5 ?_ | refine j5 ?_ | ((first | refine z1 (hK _ ?_) | refine j4 (hK _ _ (x4 (by kernel_rfl)) ?_)); clear hK K)); (first | show AWP _ _ _ _ _ | ((try simp only [j7]); first | show loopQ _ _ _ _ _ _ | show cutQ _ _ _ _ | show AWP _ _ _ _ _))) | ((first | refine z7 [] rfl ?_ | refine x7 [] rfl ?_); simp (maxSteps := 2000000) (disch := omega) only [go_sem, seval, hd, cb, z6, x6, bne_self_eq_false, beq_self_eq_true, Bool.not_true]; (repeat (first | refine ⟨by omega, ?_⟩ | refine ⟨True.intro, ?_⟩)))))
    refine x8 ⟨_, ?_, rfl⟩; rw [Try.results32]; simp (disch := omega) only [ResVars, ResVar, ptrLoc, go_sem, seval, hd, cb, z6, x6, bne_self_eq_false, beq_self_eq_true, Bool.not_true]
end Go.Proofs.Ytbiildleaelodaa
set_option linter.unusedSimpArgs false
set_option linter.unusedVariables false
namespace Go.Proofs.Ytbiildleaelodaa
open Go.Proofs.Ytbiildleaelodaa.AL
end Go.Proofs.Ytbiildleaelodaa
set_option linter.unusedSimpArgs false
set_option linter.unusedVariables false
namespace Go.Proofs.Ytbiildleaelodaa
open Go.Proofs.Ytbiildleaelodaa.AL
end Go.Proofs.Ytbiildleaelodaa
set_option linter.unusedSimpArgs false
set_option linter.unusedVariables false
namespace Go.Proofs.Ytbiildleaelodaa
open Go.Proofs.Ytbiildleaelodaa.AL
def lessTPI (b : List Cube) (R : List Cube × Int) (s : {s : Nat × List Cube // s.1 ≤ b.length ∧ lessP (b.drop s.1) s.2 = R ∧ s.2.length ≤ 200 ∧ ∀ k ∈ s.2, k.sound = true}) : ASt :=
  ⟨[(6, .p (.d (.v (.int .i64 (s.val.1 : Int))))), (1, .p (.d (.sl 1 b.length (rowT b)))), (0, .p (.d (.sl 1 s.val.2.length (rowT s.val.2))))], []⟩
def lessTPJ (b out : List Cube) (y : Cube) (i : Nat) (s : {s : Nat × List Cube // s.1 ≤ out.length ∧ s.2 = (out.take s.1).flatMap (fun x => lessL x y) ∧ s.2.length ≤ s.1 * 128}) : ASt :=
  ⟨[(8, .p (.d (.v (.int .i64 (s.val.1 : Int))))), (7, .gr 15 s.val.1 1 s.val.2.length (rowT s.val.2)), (6, .p (.d (.v (.int .i64 (i : Int))))), (1, .p (.d (.sl 1 b.length (rowT b)))), (0, .p (.d (.sl 1 out.length (rowT out))))],
   [(15, .grow 9 1 s.val.2.length s.val.1)]⟩
theorem rowT_cat (a b : List Cube) (i : Nat) : catF a.length (rowT a) (rowT b) i = rowT (a ++ b) i := by
  unfold catF rowT
  simp only [List.getD_eq_getElem?_getD]
  split
  · rw [List.getElem?_append_left (by assumption)]
  · rw [List.getElem?_append_right (by omega)]
set_option maxRecDepth 100000 in
set_option maxHeartbeats 2000000 in
theorem LessTP_c (a b : List Cube) (sa : ∀ k ∈ a, k.sound = true) (sb : ∀ k ∈ b, k.sound = true) (ha : a.length ≤ 200) (hb : b.length ≤ 200) (R : List Cube × Int) (hR : lessP b a = R) : ACalls Try.prog 51 [.d (.sl 1 a.length (rowT a)), .d (.sl 1 b.length (rowT b))]
    (· = [.d (.sl 1 R.1.length (rowT R.1)), .d (.v (.bool (R.2 == 0)))]) := by
  refine q11 Try.func51 rfl (by decide +kernel) (by rw [Try.ntmps51]; simp) ?_; rw [Try.ntmps51]; simp only [frOf]
  (repeat (first | refine j0 ?_ | refine j6 rfl ?_ | refine q7 rfl ?_ | refine q6 ?_ | (refine z2 fun K hK => ?_) | (refine x3 (by kernel_rfl) (by kernel_rfl) fun K hK => ?_) | ((first | refine x5 ?_ | refine j5 ?_ | ((first | refine z1 (hK _ ?_) | refine j4 (hK _ _ (x4 (by kernel_rfl)) ?_)); clear hK K)); (first | show AWP _ _ _ _ _ | ((try simp only [j7]); first | show loopQ _ _ _ _ _ _ | show cutQ _ _ _ _ | show AWP _ _ _ _ _))) | ((first | refine z7 [15] rfl ?_ | refine x7 [15] rfl ?_); simp (maxSteps := 2000000) (disch := omega) only [go_sem, seval, hd, cb, z6, x6]; (repeat (first | refine ⟨by omega, ?_⟩ | refine ⟨True.intro, ?_⟩)))))
  refine awp_loop (lessTPI b R) (fun s => b.length - s.val.1) ⟨(0, a), by simp, by rw [List.drop_zero]; exact hR, ha, sa⟩ ?_ (fun s => ?_)
  · unfold lessTPI
    refine Weak.list ?_ ?_; (all_goals simp (disch := omega) only [AllF, AllL, j9, q10, q9, exists_eq_left', Option.some.injEq, go_sem, seval, hd, cb, z6, x6]); (all_goals (repeat' (with_reducible apply And.intro))); (all_goals try (first | exact q5 rfl | (refine z10 ?_; omega) | (refine q5 ?_; simp; done)))
  obtain ⟨⟨i, out⟩, hi, he, ho, hs⟩ := s
  unfold lessTPI
  simp only [] at hi he ho hs
  by_cases hn : i < b.length
  · have r1 := rowT_of b i
    rw [drop_getD b i ⟨0, 0⟩ hn] at he
    have sY := sb _ (getD_in hn ⟨0, 0⟩)
    generalize b.getD i ⟨0, 0⟩ = Y at r1 he sY
    (repeat (first | refine j0 ?_ | refine j6 rfl ?_ | refine q7 rfl ?_ | refine q6 ?_ | (refine z2 fun K hK => ?_) | (refine x3 (by kernel_rfl) (by kernel_rfl) fun K hK => ?_) | ((first | refine x5 ?_ | refine j5 ?_ | ((first | refine z1 (hK _ ?_) | refine j4 (hK _ _ (x4 (by kernel_rfl)) ?_)); clear hK K)); (first | show AWP _ _ _ _ _ | ((try simp only [j7]); first | show loopQ _ _ _ _ _ _ | show cutQ _ _ _ _ | show AWP _ _ _ _ _))) | ((first | refine z7 [15] rfl ?_ | refine x7 [15] rfl ?_); simp (maxSteps := 2000000) (disch := omega) only [go_sem, seval, hd, cb, z6, x6, r1]; (repeat (first | refine ⟨by omega, ?_⟩ | refine ⟨True.intro, ?_⟩)))))
    refine awp_loop (lessTPJ b out Y i) (fun s => out.length - s.val.1) ⟨(0, []), by simp, by simp, by simp⟩ ?_ (fun s => ?_)
    · unfold lessTPJ
      refine Weak.list ?_ ?_; (all_goals simp (disch := omega) only [AllF, AllL, j9, q10, q9, exists_eq_left', Option.some.injEq, go_sem, seval, hd, cb, z6, x6, r1]); (all_goals (repeat' (with_reducible apply And.intro))); (all_goals try (first | exact q5 rfl | (refine z10 ?_; omega) | (refine q5 ?_; simp; done)))
      exact le_grgr rfl rfl (fun i hi => by omega)
    obtain ⟨⟨j, rest⟩, hj, he2, ho2⟩ := s
    unfold lessTPJ
    simp only [] at hj he2 ho2
    by_cases hm : j < out.length
    · have r2 := rowT_of out j
      have st2 := take_succ_getD out j ⟨0, 0⟩ hm
      have sX := hs _ (getD_in hm ⟨0, 0⟩)
      generalize out.getD j ⟨0, 0⟩ = X at r2 st2 sX
      have ls := LessT_c X Y sX sY
      have ll := lessL_len' X Y
      have so : (out.take (j + 1)).flatMap (fun x => lessL x Y) = (out.take j).flatMap (fun x => lessL x Y) ++ lessL X Y := by
        rw [st2, List.flatMap_append]; simp
      generalize lessL X Y = K at ls ll so
      generalize txt X = tX at r2 ls
      generalize txt Y = tY at r1 ls
      (repeat (first | refine j0 ?_ | refine j6 rfl ?_ | refine q7 rfl ?_ | refine q6 ?_ | (refine z2 fun K hK => ?_) | (refine x3 (by kernel_rfl) (by kernel_rfl) fun K hK => ?_) | ((first | refine x5 ?_ | refine j5 ?_ | ((first | refine z1 (hK _ ?_) | refine j4 (hK _ _ (x4 (by kernel_rfl)) ?_)); clear hK K)); (first | show AWP _ _ _ _ _ | ((try simp only [j7]); first | show loopQ _ _ _ _ _ _ | show cutQ _ _ _ _ | show AWP _ _ _ _ _))) | ((first | refine x10 rfl rfl rfl ?_ | refine j10 rfl rfl rfl ?_); simp (maxSteps := 2000000) (disch := omega) only [go_sem, seval, hd, cb, z6, x6, r1, r2]; (first | refine ⟨_, ls, ?_⟩)) | ((first | refine z7 [15] rfl ?_ | refine x7 [15] rfl ?_); simp (maxSteps := 2000000) (disch := omega) only [go_sem, seval, hd, cb, z6, x6, r1, r2]; (repeat (first | refine ⟨by omega, ?_⟩ | refine ⟨True.intro, ?_⟩)))))
      refine ⟨⟨(j + 1, rest ++ K), by simp only []; omega, by rw [so, ← he2], by simp; omega⟩, by simp only []; omega, ?_⟩
      refine Weak.list ?_ ?_; (all_goals simp (disch := omega) only [AllF, AllL, j9, q10, q9, exists_eq_left', Option.some.injEq, go_sem, seval, hd, cb, z6, x6, r1, r2]); (all_goals (repeat' (with_reducible apply And.intro))); (all_goals try (first | exact q5 rfl | (refine z10 ?_; omega) | (refine q5 ?_; simp; done)))
      · exact le_grgr rfl (by simp) (fun k hk => rowT_cat rest K k)
      · exact lle_grow (by simp) rfl
    · have hjl : j = out.length := by omega
      subst hjl
      rw [List.take_length] at he2
      have hre : rest = lessRest out Y := he2
      have srest : ∀ k ∈ rest, k.sound = true := by rw [hre]; exact lessRest_sound hs
      have ln := LeanT_c rest srest (by omega)
      have lm : ∀ k ∈ leanP rest, k.sound = true := fun k hk => (leanP_mem hk).2
      unfold lessP at he
      rw [← hre] at he
      by_cases h0 : (leanP rest).length > 200
      · have e1 : leanE rest = 10 := if_pos h0
        rw [e1] at he
        simp only [show ((10 : Int) = 0) = False from by simp, if_false] at he
        subst he
        generalize leanP rest = V at ln lm h0
        (repeat (first | refine j0 ?_ | refine j6 rfl ?_ | refine q7 rfl ?_ | refine q6 ?_ | (refine z2 fun K hK => ?_) | (refine x3 (by kernel_rfl) (by kernel_rfl) fun K hK => ?_) | ((first | refine x5 ?_ | refine j5 ?_ | ((first | refine z1 (hK _ ?_) | refine j4 (hK _ _ (x4 (by kernel_rfl)) ?_)); clear hK K)); (first | show AWP _ _ _ _ _ | ((try simp only [j7]); first | show loopQ _ _ _ _ _ _ | show cutQ _ _ _ _ | show AWP _ _ _ _ _))) | ((first | refine x10 rfl rfl rfl ?_ | refine j10 rfl rfl rfl ?_); simp (maxSteps := 2000000) (disch := omega) only [go_sem, seval, hd, cb, z6, x6, r1]; (first | refine ⟨_, ln, ?_⟩)) | ((first | refine z7 [15] rfl ?_ | refine x7 [15] rfl ?_); simp (maxSteps := 2000000) (disch := omega) only [go_sem, seval, hd, cb, z6, x6, r1]; (repeat (first | refine ⟨by omega, ?_⟩ | refine ⟨True.intro, ?_⟩)))))
        refine awp_slot 4 _ (.p (.d (.sl 1 ([] : List Cube).length (rowT [])))) rfl (le_nil 1 _ _ rfl) ?_
        refine x8 ⟨_, ?_, rfl⟩; rw [Try.results51]; simp (disch := omega) only [ResVars, ResVar, ptrLoc, go_sem, seval, hd, cb, z6, x6, r1]
      · have e1 : leanE rest = 0 := if_neg h0
        rw [if_pos e1, leanE_val rest e1] at he
        generalize leanP rest = V at ln lm h0 he
        (repeat (first | refine j0 ?_ | refine j6 rfl ?_ | refine q7 rfl ?_ | refine q6 ?_ | (refine z2 fun K hK => ?_) | (refine x3 (by kernel_rfl) (by kernel_rfl) fun K hK => ?_) | ((first | refine x5 ?_ | refine j5 ?_ | ((first | refine z1 (hK _ ?_) | refine j4 (hK _ _ (x4 (by kernel_rfl)) ?_)); clear hK K)); (first | show AWP _ _ _ _ _ | ((try simp only [j7]); first | show loopQ _ _ _ _ _ _ | show cutQ _ _ _ _ | show AWP _ _ _ _ _))) | ((first | refine x10 rfl rfl rfl ?_ | refine j10 rfl rfl rfl ?_); simp (maxSteps := 2000000) (disch := omega) only [go_sem, seval, hd, cb, z6, x6, r1]; (first | refine ⟨_, ln, ?_⟩)) | ((first | refine z7 [15] rfl ?_ | refine x7 [15] rfl ?_); simp (maxSteps := 2000000) (disch := omega) only [go_sem, seval, hd, cb, z6, x6, r1]; (repeat (first | refine ⟨by omega, ?_⟩ | refine ⟨True.intro, ?_⟩)))))
        refine ⟨⟨(i + 1, V), by simp only []; omega, he, by simp only []; omega, lm⟩, by simp only []; omega, ?_⟩
        refine Weak.list ?_ ?_; (all_goals simp (disch := omega) only [AllF, AllL, j9, q10, q9, exists_eq_left', Option.some.injEq, go_sem, seval, hd, cb, z6, x6, r1]); (all_goals (repeat' (with_reducible apply And.intro))); (all_goals try (first | exact q5 rfl | (refine z10 ?_; omega) | (refine q5 ?_; simp; done)))
  · have hil : i = b.length := by omega
    subst hil
    rw [List.drop_length] at he
    unfold lessP at he
    subst he
    (repeat (first | refine j0 ?_ | refine j6 rfl ?_ | refine q7 rfl ?_ | refine q6 ?_ | (refine z2 fun K hK => ?_) | (refine x3 (by kernel_rfl) (by kernel_rfl) fun K hK => ?_) | ((first | refine x5 ?_ | refine j5 ?_ | ((first | refine z1 (hK _ ?_) | refine j4 (hK _ _ (x4 (by kernel_rfl)) ?_)); clear hK K)); (first | show AWP _ _ _ _ _ | ((try simp only [j7]); first | show loopQ _ _ _ _ _ _ | show cutQ _ _ _ _ | show AWP _ _ _ _ _))) | ((first | refine z7 [15] rfl ?_ | refine x7 [15] rfl ?_); simp (maxSteps := 2000000) (disch := omega) only [go_sem, seval, hd, cb, z6, x6]; (repeat (first | refine ⟨by omega, ?_⟩ | refine ⟨True.intro, ?_⟩)))))
    refine x8 ⟨_, ?_, rfl⟩; rw [Try.results51]; simp (disch := omega) only [ResVars, ResVar, ptrLoc, go_sem, seval, hd, cb, z6, x6]
end Go.Proofs.Ytbiildleaelodaa
set_option linter.unusedSimpArgs false
set_option linter.unusedVariables false
namespace Go.Proofs.Ytbiildleaelodaa
open Go.Proofs.Ytbiildleaelodaa.AL
def anyI (i : Fin 129) : ASt :=
  ⟨[(2, .p (.d (.v (.int .i64 (i.val : Int))))), (1, .row 3 1 0 128)], [(3, .arr 5 128 fun j => .v (.int .u8 (if j < i.val then 120 else 0)))]⟩
theorem any_step (i j : Nat) : (if j = i then Dat.v (.int .u8 120) else Dat.v (.int .u8 (if j < i then 120 else 0))) = Dat.v (.int .u8 (if j < i + 1 then 120 else 0)) := by
  by_cases h : j = i
  · rw [if_pos h, if_pos (by omega)]
  · rw [if_neg h]
    by_cases h2 : j < i
    · rw [if_pos h2, if_pos (by omega)]
    · rw [if_neg h2, if_neg (by omega)]
set_option maxRecDepth 100000 in
theorem Any_c : ACalls Try.prog 31 [] (· = [.d (.v (.string (txt ⟨0, 0⟩)))]) := by
  refine q11 Try.func31 rfl (by decide +kernel) (by rw [Try.ntmps31]; simp) ?_; rw [Try.ntmps31]; simp only [frOf]
  (repeat (first | refine j0 ?_ | refine j6 rfl ?_ | refine q7 rfl ?_ | refine q6 ?_ | (refine z2 fun K hK => ?_) | (refine x3 (by kernel_rfl) (by kernel_rfl) fun K hK => ?_) | ((first | refine x5 ?_ | refine j5 ?_ | ((first | refine z1 (hK _ ?_) | refine j4 (hK _ _ (x4 (by kernel_rfl)) ?_)); clear hK K)); (first | show AWP _ _ _ _ _ | ((try simp only [j7]); first | show loopQ _ _ _ _ _ _ | show cutQ _ _ _ _ | show AWP _ _ _ _ _))) | ((first | refine z7 [] rfl ?_ | refine x7 [] rfl ?_); simp (maxSteps := 2000000) (disch := omega) only [go_sem, seval, hd, cb, ruleD]; (repeat (first | refine ⟨by omega, ?_⟩ | refine ⟨True.intro, ?_⟩)))))
  refine awp_loop anyI (fun s => 128 - s.val) ⟨0, by omega⟩ ?_ (fun s => ?_)
  · unfold anyI
    refine Weak.list ?_ ?_; (all_goals simp (disch := omega) only [AllF, AllL, j9, q10, q9, exists_eq_left', Option.some.injEq, go_sem, seval, hd, cb, ruleD]); (all_goals (repeat' (with_reducible apply And.intro))); (all_goals try (first | exact q5 rfl | (refine z10 ?_; omega) | (refine q5 ?_; simp; done)))
    exact ⟨rfl, rfl, fun j _ => by simp⟩
  obtain ⟨i, hi⟩ := s
  unfold anyI
  by_cases hn : i < 128
  · (repeat (first | refine j0 ?_ | refine j6 rfl ?_ | refine q7 rfl ?_ | refine q6 ?_ | (refine z2 fun K hK => ?_) | (refine x3 (by kernel_rfl) (by kernel_rfl) fun K hK => ?_) | ((first | refine x5 ?_ | refine j5 ?_ | ((first | refine z1 (hK _ ?_) | refine j4 (hK _ _ (x4 (by kernel_rfl)) ?_)); clear hK K)); (first | show AWP _ _ _ _ _ | ((try simp only [j7]); first | show loopQ _ _ _ _ _ _ | show cutQ _ _ _ _ | show AWP _ _ _ _ _))) | ((first | refine z7 [] rfl ?_ | refine x7 [] rfl ?_); simp (maxSteps := 2000000) (disch := omega) only [go_sem, seval, hd, cb, ruleD]; (repeat (first | refine ⟨by omega, ?_⟩ | refine ⟨True.intro, ?_⟩)))))
    refine ⟨⟨i + 1, by omega⟩, by simp only []; omega, ?_⟩
    refine Weak.list ?_ ?_; (all_goals simp (disch := omega) only [AllF, AllL, j9, q10, q9, exists_eq_left', Option.some.injEq, go_sem, seval, hd, cb, ruleD]); (all_goals (repeat' (with_reducible apply And.intro))); (all_goals try (first | exact q5 rfl | (refine z10 ?_; omega) | (refine q5 ?_; simp; done)))
    exact ⟨rfl, rfl, fun j _ => any_step i j⟩
  · have : i = 128 := by omega
    subst this
    (repeat (first | refine j0 ?_ | refine j6 rfl ?_ | refine q7 rfl ?_ | refine q6 ?_ | (refine z2 fun K hK => ?_) | (refine x3 (by kernel_rfl) (by kernel_rfl) fun K hK => ?_) | ((first | refine x5 ?_ | refine j5 ?_ | ((first | refine z1 (hK _ ?_) | refine j4 (hK _ _ (x4 (by kernel_rfl)) ?_)); clear hK K)); (first | show AWP _ _ _ _ _ | ((try simp only [j7]); first | show loopQ _ _ _ _ _ _ | show cutQ _ _ _ _ | show AWP _ _ _ _ _))) | ((first | refine z7 [] rfl ?_ | refine x7 [] rfl ?_); simp (maxSteps := 2000000) (disch := omega) only [go_sem, seval, hd, cb, ruleD]; (repeat (first | refine ⟨by omega, ?_⟩ | refine ⟨True.intro, ?_⟩)))))
    refine x8 ⟨_, ?_, rfl⟩; rw [Try.results31]; simp (disch := omega) only [ResVars, ResVar, ptrLoc, go_sem, seval, hd, cb, ruleD]
    unfold txt
    congr 2
    first | done | rfl
theorem LessT1_c (p : List Cube) (c : Cube) (hp : ∀ k ∈ p, k.sound = true) (hl : p.length ≤ 200) (hc : c.sound = true) : ACalls Try.prog 51 [.d (.sl 1 p.length (rowT p)), .d (.sl 1 1 fun i => [[Dat.v (.string (txt c))]].getD i [])]
    (· = [.d (.sl 1 (lessP [c] p).1.length (rowT (lessP [c] p).1)), .d (.v (.bool ((lessP [c] p).2 == 0)))]) := by
  have k := LessTP_c p [c] hp (by simp [hc]) hl (by simp) _ rfl
  refine acalls_le (.cons (ple_refl _) (.cons (ple_sl rfl fun i hi => ?_) .nil)) k
  have : i = 0 := by simp at hi; exact hi
  subst this; rfl
theorem all_getD {l : List Rule} {i : Nat} (h : ∀ j, j < i → (l.getD j r0).mt.sound = true) (hi : i = l.length) : soundL l = true := by
  unfold soundL
  rw [List.all_eq_true]
  intro r hr
  obtain ⟨j, hj, e⟩ := List.mem_iff_getElem.1 hr
  have := h j (by omega)
  rw [List.getD_eq_getElem?_getD, List.getElem?_eq_getElem hj, Option.getD_some, e] at this
  exact this
def wtA (l : List Rule) (ids : List Nat) (c : Cube) (i : {i : Nat // i ≤ l.length ∧ ∀ j, j < i → (l.getD j r0).mt.sound = true}) : ASt :=
  ⟨[(9, .p (.d (.v (.int .i64 (i.val : Int))))), (8, .p (.d (.sl 1 1 fun i => [[Dat.v (.string (txt c))]].getD i []))), (1, .p (.d (.sl 1 ids.length (rowI ids)))), (0, .p (.d (.sl 12 l.length (rowR l))))], []⟩
def wtB (l : List Rule) (ids : List Nat) (R : List Cube × Int) (s : {s : Nat × List Cube // s.1 ≤ ids.length ∧ s.2.length ≤ 200 ∧ (∀ k ∈ s.2, k.sound = true) ∧ woGo l (ids.drop s.1) s.2 = R}) : ASt :=
  ⟨[(12, .p (.d (.v (.int .i64 (s.val.1 : Int))))), (8, .p (.d (.sl 1 s.val.2.length (rowT s.val.2)))), (1, .p (.d (.sl 1 ids.length (rowI ids)))), (0, .p (.d (.sl 12 l.length (rowR l))))], []⟩
set_option maxRecDepth 100000 in
set_option maxHeartbeats 4000000 in
theorem WithoutT_c (l : List Rule) (ids : List Nat) (c : Cube) (hl : l.length ≤ 1099511627776) (hi : ∀ n ∈ ids, n < l.length) (hil : ids.length ≤ 1099511627776) (hc : c.sound = true) :
    ACalls Try.prog 29 [.d (.sl 12 l.length (rowR l)), .d (.sl 1 ids.length (rowI ids)), .d (.v (.string (txt c)))] (· = [.d (.sl 1 (withoutR l ids [c]).1.length (rowT (withoutR l ids [c]).1)), .d (.v (.int .i64 (withoutR l ids [c]).2))]) := by
  obtain ⟨R, hR⟩ : ∃ R, withoutR l ids [c] = R := ⟨_, rfl⟩
  rw [hR]
  unfold withoutR at hR
  refine q11 Try.func29 rfl (by decide +kernel) (by rw [Try.ntmps29]; simp) ?_; rw [Try.ntmps29]; simp only [frOf]
  (repeat (first | refine j0 ?_ | refine j6 rfl ?_ | refine q7 rfl ?_ | refine q6 ?_ | (refine z2 fun K hK => ?_) | (refine x3 (by kernel_rfl) (by kernel_rfl) fun K hK => ?_) | ((first | refine x5 ?_ | refine j5 ?_ | ((first | refine z1 (hK _ ?_) | refine j4 (hK _ _ (x4 (by kernel_rfl)) ?_)); clear hK K)); (first | show AWP _ _ _ _ _ | ((try simp only [j7]); first | show loopQ _ _ _ _ _ _ | show cutQ _ _ _ _ | show AWP _ _ _ _ _))) | ((first | refine z7 [] rfl ?_ | refine x7 [] rfl ?_); simp (maxSteps := 2000000) (disch := omega) only [go_sem, seval, hd, cb, ruleD]; (repeat (first | refine ⟨by omega, ?_⟩ | refine ⟨True.intro, ?_⟩)))))
  refine awp_loop (wtA l ids c) (fun s => l.length - s.val) ⟨0, by omega, fun j h => by omega⟩ ?_ (fun s => ?_)
  · unfold wtA
    refine Weak.list ?_ ?_; (all_goals simp (disch := omega) only [AllF, AllL, j9, q10, q9, exists_eq_left', Option.some.injEq, go_sem, seval, hd, cb, ruleD]); (all_goals (repeat' (with_reducible apply And.intro))); (all_goals try (first | exact q5 rfl | (refine z10 ?_; omega) | (refine q5 ?_; simp; done)))
  obtain ⟨i, h1, h2⟩ := s
  unfold wtA
  simp only []
  by_cases hn : i < l.length
  · have r1 := rowR_at l i
    have hmem := getD_in hn r0
    have st : ∀ x, l.getD i r0 = x → x.mt.sound = true → ∀ j, j < i + 1 → (l.getD j r0).mt.sound = true := fun x e hx j hj => by
      by_cases e2 : j = i
      · subst e2; rw [e]; exact hx
      · exact h2 j (by omega)
    have st := st _ rfl
    generalize l.getD i r0 = x at r1 hmem st
    have tc := Text_c x.mt
    unfold cb at tc
    cases hs : x.mt.sound
    · rw [hs] at tc
      simp only [Bool.false_eq_true, if_false] at tc
      have hsl : soundL l = false := by
        cases h : soundL l with
        | false => rfl
        | true => unfold soundL at h; rw [List.all_eq_true] at h; have := h _ hmem; rw [hs] at this; cases this
      rw [hsl] at hR
      simp only [Bool.false_eq_true, if_false] at hR
      subst hR
      (repeat (first | refine j0 ?_ | refine j6 rfl ?_ | refine q7 rfl ?_ | refine q6 ?_ | (refine z2 fun K hK => ?_) | (refine x3 (by kernel_rfl) (by kernel_rfl) fun K hK => ?_) | ((first | refine x5 ?_ | refine j5 ?_ | ((first | refine z1 (hK _ ?_) | refine j4 (hK _ _ (x4 (by kernel_rfl)) ?_)); clear hK K)); (first | show AWP _ _ _ _ _ | ((try simp only [j7]); first | show loopQ _ _ _ _ _ _ | show cutQ _ _ _ _ | show AWP _ _ _ _ _))) | ((first | refine x10 rfl rfl rfl ?_ | refine j10 rfl rfl rfl ?_); simp (maxSteps := 2000000) (disch := omega) only [go_sem, seval, hd, cb, ruleD, r1]; (first | refine ⟨_, tc, ?_⟩)) | ((first | refine z7 [] rfl ?_ | refine x7 [] rfl ?_); simp (maxSteps := 2000000) (disch := omega) only [go_sem, seval, hd, cb, ruleD, r1]; (repeat (first | refine ⟨by omega, ?_⟩ | refine ⟨True.intro, ?_⟩)))))
      refine awp_slot 6 _ (.p (.d (.sl 1 0 (rowT [])))) rfl (le_nil _ _ _ rfl) ?_
      refine x8 ⟨_, ?_, rfl⟩; rw [Try.results29]; simp (disch := omega) only [ResVars, ResVar, ptrLoc, go_sem, seval, hd, cb, ruleD, r1]
    · rw [hs] at tc
      simp only [if_true] at tc
      (repeat (first | refine j0 ?_ | refine j6 rfl ?_ | refine q7 rfl ?_ | refine q6 ?_ | (refine z2 fun K hK => ?_) | (refine x3 (by kernel_rfl) (by kernel_rfl) fun K hK => ?_) | ((first | refine x5 ?_ | refine j5 ?_ | ((first | refine z1 (hK _ ?_) | refine j4 (hK _ _ (x4 (by kernel_rfl)) ?_)); clear hK K)); (first | show AWP _ _ _ _ _ | ((try simp only [j7]); first | show loopQ _ _ _ _ _ _ | show cutQ _ _ _ _ | show AWP _ _ _ _ _))) | ((first | refine x10 rfl rfl rfl ?_ | refine j10 rfl rfl rfl ?_); simp (maxSteps := 2000000) (disch := omega) only [go_sem, seval, hd, cb, ruleD, r1]; (first | refine ⟨_, tc, ?_⟩)) | ((first | refine z7 [] rfl ?_ | refine x7 [] rfl ?_); simp (maxSteps := 2000000) (disch := omega) only [go_sem, seval, hd, cb, ruleD, r1]; (repeat (first | refine ⟨by omega, ?_⟩ | refine ⟨True.intro, ?_⟩)))))
      refine ⟨⟨i + 1, by omega, st hs⟩, by simp only []; omega, ?_⟩
      refine Weak.list ?_ ?_; (all_goals simp (disch := omega) only [AllF, AllL, j9, q10, q9, exists_eq_left', Option.some.injEq, go_sem, seval, hd, cb, ruleD, r1]); (all_goals (repeat' (with_reducible apply And.intro))); (all_goals try (first | exact q5 rfl | (refine z10 ?_; omega) | (refine q5 ?_; simp; done)))
  · have hsl := all_getD h2 (by omega)
    rw [hsl] at hR
    simp only [if_true] at hR
    (repeat (first | refine j0 ?_ | refine j6 rfl ?_ | refine q7 rfl ?_ | refine q6 ?_ | (refine z2 fun K hK => ?_) | (refine x3 (by kernel_rfl) (by kernel_rfl) fun K hK => ?_) | ((first | refine x5 ?_ | refine j5 ?_ | ((first | refine z1 (hK _ ?_) | refine j4 (hK _ _ (x4 (by kernel_rfl)) ?_)); clear hK K)); (first | show AWP _ _ _ _ _ | ((try simp only [j7]); first | show loopQ _ _ _ _ _ _ | show cutQ _ _ _ _ | show AWP _ _ _ _ _))) | ((first | refine z7 [] rfl ?_ | refine x7 [] rfl ?_); simp (maxSteps := 2000000) (disch := omega) only [go_sem, seval, hd, cb, ruleD]; (repeat (first | refine ⟨by omega, ?_⟩ | refine ⟨True.intro, ?_⟩)))))
    refine awp_loop (wtB l ids R) (fun s => ids.length - s.val.1) ⟨(0, [c]), by simp, by simp, by simp [hc], by rw [List.drop_zero]; exact hR⟩ ?_ (fun s => ?_)
    · unfold wtB
      refine Weak.list ?_ ?_; (all_goals simp (disch := omega) only [AllF, AllL, j9, q10, q9, exists_eq_left', Option.some.injEq, go_sem, seval, hd, cb, ruleD]); (all_goals (repeat' (with_reducible apply And.intro))); (all_goals try (first | exact q5 rfl | (refine z10 ?_; omega) | (refine q5 ?_; simp; done)))
      exact le_sl rfl fun i hi => by
        have : i = 0 := by simp at hi; exact hi
        subst this; rfl
    clear h2 h1 hn i hR
    obtain ⟨⟨i, q⟩, h1, h2, h3, he⟩ := s
    unfold wtB
    simp only [] at h1 h2 h3 he
    by_cases hn : i < ids.length
    · rw [drop_getD ids i 0 hn] at he
      have r0' := rowI_at ids i
      have hk := hi _ (getD_in hn 0)
      generalize ids.getD i 0 = k at he r0' hk
      have r1 := rowR_at l k
      have hms := soundL_at hsl hk
      unfold woGo at he
      generalize l.getD k r0 = x at he r1 hms
      have tc := Text_c x.mt
      rw [hms] at tc
      simp only [if_true] at tc
      unfold cb at tc
      have kl := LessT1_c q x.mt h3 h2 hms
      have kk := less1_keeps (p := q) h3 hms
      have kn := lessP_len [x.mt] q h2
      have ko := lessP_or [x.mt] q
      generalize lessP [x.mt] q = u at he kl kk kn ko
      generalize txt x.mt = tx at tc kl
      obtain ⟨u, e⟩ := u
      simp only [] at he kl kk kn ko
      rcases ko with rfl | ⟨rfl, rfl⟩
      · rw [if_pos rfl] at he
        rw [show ((0 : Int) == 0) = true from rfl] at kl
        (repeat (first | refine j0 ?_ | refine j6 rfl ?_ | refine q7 rfl ?_ | refine q6 ?_ | (refine z2 fun K hK => ?_) | (refine x3 (by kernel_rfl) (by kernel_rfl) fun K hK => ?_) | ((first | refine x5 ?_ | refine j5 ?_ | ((first | refine z1 (hK _ ?_) | refine j4 (hK _ _ (x4 (by kernel_rfl)) ?_)); clear hK K)); (first | show AWP _ _ _ _ _ | ((try simp only [j7]); first | show loopQ _ _ _ _ _ _ | show cutQ _ _ _ _ | show AWP _ _ _ _ _))) | ((first | refine x10 rfl rfl rfl ?_ | refine j10 rfl rfl rfl ?_); simp (maxSteps := 2000000) (disch := omega) only [go_sem, seval, hd, cb, ruleD, r0', r1]; (first | refine ⟨_, tc, ?_⟩ | refine ⟨_, kl, ?_⟩)) | ((first | refine z7 [] rfl ?_ | refine x7 [] rfl ?_); simp (maxSteps := 2000000) (disch := omega) only [go_sem, seval, hd, cb, ruleD, r0', r1]; (repeat (first | refine ⟨by omega, ?_⟩ | refine ⟨True.intro, ?_⟩)))))
        refine ⟨⟨(i + 1, u), by simp only []; omega, kn, kk rfl, he⟩, by simp only []; omega, ?_⟩
        refine Weak.list ?_ ?_; (all_goals simp (disch := omega) only [AllF, AllL, j9, q10, q9, exists_eq_left', Option.some.injEq, go_sem, seval, hd, cb, ruleD, r0', r1]); (all_goals (repeat' (with_reducible apply And.intro))); (all_goals try (first | exact q5 rfl | (refine z10 ?_; omega) | (refine q5 ?_; simp; done)))
      · rw [if_neg (by decide)] at he
        rw [show ((10 : Int) == 0) = false from rfl] at kl
        subst he
        (repeat (first | refine j0 ?_ | refine j6 rfl ?_ | refine q7 rfl ?_ | refine q6 ?_ | (refine z2 fun K hK => ?_) | (refine x3 (by kernel_rfl) (by kernel_rfl) fun K hK => ?_) | ((first | refine x5 ?_ | refine j5 ?_ | ((first | refine z1 (hK _ ?_) | refine j4 (hK _ _ (x4 (by kernel_rfl)) ?_)); clear hK K)); (first | show AWP _ _ _ _ _ | ((try simp only [j7]); first | show loopQ _ _ _ _ _ _ | show cutQ _ _ _ _ | show AWP _ _ _ _ _))) | ((first | refine x10 rfl rfl rfl ?_ | refine j10 rfl rfl rfl ?_); simp (maxSteps := 2000000) (disch := omega) only [go_sem, seval, hd, cb, ruleD, r0', r1]; (first | refine ⟨_, tc, ?_⟩ | refine ⟨_, kl, ?_⟩)) | ((first | refine z7 [] rfl ?_ | refine x7 [] rfl ?_); simp (maxSteps := 2000000) (disch := omega) only [go_sem, seval, hd, cb, ruleD, r0', r1]; (repeat (first | refine ⟨by omega, ?_⟩ | refine ⟨True.intro, ?_⟩)))))
        refine awp_slot 6 _ (.p (.d (.sl 1 0 (rowT [])))) rfl (le_nil _ _ _ rfl) ?_
        refine x8 ⟨_, ?_, rfl⟩; rw [Try.results29]; simp (disch := omega) only [ResVars, ResVar, ptrLoc, go_sem, seval, hd, cb, ruleD, r0', r1]
    · have : i = ids.length := by omega
      subst this
      rw [List.drop_length] at he
      unfold woGo at he
      subst he
      (repeat (first | refine j0 ?_ | refine j6 rfl ?_ | refine q7 rfl ?_ | refine q6 ?_ | (refine z2 fun K hK => ?_) | (refine x3 (by kernel_rfl) (by kernel_rfl) fun K hK => ?_) | ((first | refine x5 ?_ | refine j5 ?_ | ((first | refine z1 (hK _ ?_) | refine j4 (hK _ _ (x4 (by kernel_rfl)) ?_)); clear hK K)); (first | show AWP _ _ _ _ _ | ((try simp only [j7]); first | show loopQ _ _ _ _ _ _ | show cutQ _ _ _ _ | show AWP _ _ _ _ _))) | ((first | refine z7 [] rfl ?_ | refine x7 [] rfl ?_); simp (maxSteps := 2000000) (disch := omega) only [go_sem, seval, hd, cb, ruleD]; (repeat (first | refine ⟨by omega, ?_⟩ | refine ⟨True.intro, ?_⟩)))))
      refine x8 ⟨_, ?_, rfl⟩; rw [Try.results29]; simp (disch := omega) only [ResVars, ResVar, ptrLoc, go_sem, seval, hd, cb, ruleD]
def rsI (l : List Rule) (n : Nat) (i : {i : Nat // i ≤ (orderR l).idxOf n}) : ASt :=
  ⟨[(7, .p (.d (.v (.int .i64 (i.val : Int))))), (6, .p (.d (.sl 1 l.length (rowI (orderR l))))), (1, .p (.d (.v (.int .i64 (n : Int))))), (0, .p (.d (.sl 12 l.length (rowR l))))], []⟩
set_option maxRecDepth 100000 in
set_option maxHeartbeats 4000000 in
theorem SeenRef_c (l : List Rule) (n : Nat) (hl : l.length ≤ 1099511627776) (hn : n < l.length) :
    ACalls Try.prog 22 [.d (.sl 12 l.length (rowR l)), .d (.v (.int .i64 (n : Int)))] (· = [.d (.sl 1 (seenR l n).1.length (rowT (seenR l n).1)), .d (.v (.int .i64 (seenR l n).2))]) := by
  have ho := Order_c l hl
  have hlt := List.idxOf_lt_length_of_mem (orderR_mem.2 hn)
  have hge := List.getElem_idxOf hlt
  have hno : ∀ i, i < (orderR l).idxOf n → (orderR l).getD i 0 ≠ n := fun i hi e => by
    rw [List.getD_eq_getElem?_getD, List.getElem?_eq_getElem (by omega)] at e
    have h2 := List.not_of_lt_findIdx (p := (· == n)) hi
    simp at e h2
    exact h2 e
  have hol := orderR_len l
  have hmem := getD_in hn r0
  have hw := fun hc => WithoutT_c l ((orderR l).take ((orderR l).idxOf n)) (l.getD n r0).mt hl (fun n hn => orderR_lt (List.mem_of_mem_take hn)) (by rw [List.length_take]; omega) hc
  rw [List.length_take, Nat.min_eq_left (by omega)] at hw
  obtain ⟨R, hR⟩ : ∃ R, seenR l n = R := ⟨_, rfl⟩
  rw [hR]
  unfold seenR at hR
  rw [hR] at hw
  unfold withoutR at hR
  have r1 := rowR_at l n
  generalize l.getD n r0 = x at *
  have hrow : ∀ i, i < (orderR l).idxOf n → rowI (orderR l) i = rowI ((orderR l).take ((orderR l).idxOf n)) i := fun i hi => rowI_take _ _ i hi
  generalize rowI ((orderR l).take ((orderR l).idxOf n)) = rt at hw hrow
  generalize (orderR l).idxOf n = k at *
  refine q11 Try.func22 rfl (by decide +kernel) (by rw [Try.ntmps22]; simp) ?_; rw [Try.ntmps22]; simp only [frOf]
  (repeat (first | refine j0 ?_ | refine j6 rfl ?_ | refine q7 rfl ?_ | refine q6 ?_ | (refine z2 fun K hK => ?_) | (refine x3 (by kernel_rfl) (by kernel_rfl) fun K hK => ?_) | ((first | refine x5 ?_ | refine j5 ?_ | ((first | refine z1 (hK _ ?_) | refine j4 (hK _ _ (x4 (by kernel_rfl)) ?_)); clear hK K)); (first | show AWP _ _ _ _ _ | ((try simp only [j7]); first | show loopQ _ _ _ _ _ _ | show cutQ _ _ _ _ | show AWP _ _ _ _ _))) | ((first | refine x10 rfl rfl rfl ?_ | refine j10 rfl rfl rfl ?_); simp (maxSteps := 2000000) (disch := omega) only [go_sem, seval, hd, cb, ruleD]; (first | refine ⟨_, ho, ?_⟩)) | ((first | refine z7 [] rfl ?_ | refine x7 [] rfl ?_); simp (maxSteps := 2000000) (disch := omega) only [go_sem, seval, hd, cb, ruleD]; (repeat (first | refine ⟨by omega, ?_⟩ | refine ⟨True.intro, ?_⟩)))))
  refine awp_loop (fun i : {i : Nat // i ≤ k} => ⟨[(7, .p (.d (.v (.int .i64 (i.val : Int))))), (6, .p (.d (.sl 1 l.length (rowI (orderR l))))), (1, .p (.d (.v (.int .i64 (n : Int))))), (0, .p (.d (.sl 12 l.length (rowR l))))], []⟩) (fun s => k - s.val) ⟨0, by omega⟩ ?_ (fun s => ?_)
  · refine Weak.list ?_ ?_; (all_goals simp (disch := omega) only [AllF, AllL, j9, q10, q9, exists_eq_left', Option.some.injEq, go_sem, seval, hd, cb, ruleD]); (all_goals (repeat' (with_reducible apply And.intro))); (all_goals try (first | exact q5 rfl | (refine z10 ?_; omega) | (refine q5 ?_; simp; done)))
  obtain ⟨i, hi⟩ := s
  simp only []
  have r2 := rowI_at (orderR l) i
  by_cases h : i < k
  · have hne := hno i h
    generalize (orderR l).getD i 0 = m at r2 hne
    have q : ((m : Int) != (n : Int)) = true := ine_tt (by omega)
    (repeat (first | refine j0 ?_ | refine j6 rfl ?_ | refine q7 rfl ?_ | refine q6 ?_ | (refine z2 fun K hK => ?_) | (refine x3 (by kernel_rfl) (by kernel_rfl) fun K hK => ?_) | ((first | refine x5 ?_ | refine j5 ?_ | ((first | refine z1 (hK _ ?_) | refine j4 (hK _ _ (x4 (by kernel_rfl)) ?_)); clear hK K)); (first | show AWP _ _ _ _ _ | ((try simp only [j7]); first | show loopQ _ _ _ _ _ _ | show cutQ _ _ _ _ | show AWP _ _ _ _ _))) | ((first | refine z7 [] rfl ?_ | refine x7 [] rfl ?_); simp (maxSteps := 2000000) (disch := omega) only [go_sem, seval, hd, cb, ruleD, r2, q]; (repeat (first | refine ⟨by omega, ?_⟩ | refine ⟨True.intro, ?_⟩)))))
    refine ⟨⟨i + 1, by omega⟩, by simp only []; omega, ?_⟩
    refine Weak.list ?_ ?_; (all_goals simp (disch := omega) only [AllF, AllL, j9, q10, q9, exists_eq_left', Option.some.injEq, go_sem, seval, hd, cb, ruleD, r2, q]); (all_goals (repeat' (with_reducible apply And.intro))); (all_goals try (first | exact q5 rfl | (refine z10 ?_; omega) | (refine q5 ?_; simp; done)))
  · have : i = k := by omega
    subst this
    rw [List.getD_eq_getElem?_getD, List.getElem?_eq_getElem hlt, Option.getD_some, hge] at r2
    have q : ((n : Int) != (n : Int)) = false := ine_ff rfl
    have tc := Text_c x.mt
    unfold cb at tc
    cases hs : x.mt.sound
    · rw [hs] at tc
      simp only [Bool.false_eq_true, if_false] at tc
      have hsl : soundL l = false := by
        cases h : soundL l with
        | false => rfl
        | true => unfold soundL at h; rw [List.all_eq_true] at h; have := h _ hmem; rw [hs] at this; cases this
      rw [hsl] at hR
      simp only [Bool.false_eq_true, if_false] at hR
      subst hR
      (repeat (first | refine j0 ?_ | refine j6 rfl ?_ | refine q7 rfl ?_ | refine q6 ?_ | (refine z2 fun K hK => ?_) | (refine x3 (by kernel_rfl) (by kernel_rfl) fun K hK => ?_) | ((first | refine x5 ?_ | refine j5 ?_ | ((first | refine z1 (hK _ ?_) | refine j4 (hK _ _ (x4 (by kernel_rfl)) ?_)); clear hK K)); (first | show AWP _ _ _ _ _ | ((try simp only [j7]); first | show loopQ _ _ _ _ _ _ | show cutQ _ _ _ _ | show AWP _ _ _ _ _))) | ((first | refine x10 rfl rfl rfl ?_ | refine j10 rfl rfl rfl ?_); simp (maxSteps := 2000000) (disch := omega) only [go_sem, seval, hd, cb, ruleD, r1, r2, q]; (first | refine ⟨_, tc, ?_⟩)) | ((first | refine z7 [] rfl ?_ | refine x7 [] rfl ?_); simp (maxSteps := 2000000) (disch := omega) only [go_sem, seval, hd, cb, ruleD, r1, r2, q]; (repeat (first | refine ⟨by omega, ?_⟩ | refine ⟨True.intro, ?_⟩)))))
      refine awp_slot 4 _ (.p (.d (.sl 1 0 (rowT [])))) rfl (le_nil _ _ _ rfl) ?_
      refine x8 ⟨_, ?_, rfl⟩; rw [Try.results22]; simp (disch := omega) only [ResVars, ResVar, ptrLoc, go_sem, seval, hd, cb, ruleD, r1, r2, q]
    · rw [hs] at tc
      simp only [if_true] at tc
      have hw := acalls_le (.cons (ple_refl _) (.cons (ple_sl rfl fun i hi => hrow i hi) (.cons (ple_refl _) .nil))) (hw hs)
      generalize txt x.mt = tx at tc hw
      (repeat (first | refine j0 ?_ | refine j6 rfl ?_ | refine q7 rfl ?_ | refine q6 ?_ | (refine z2 fun K hK => ?_) | (refine x3 (by kernel_rfl) (by kernel_rfl) fun K hK => ?_) | ((first | refine x5 ?_ | refine j5 ?_ | ((first | refine z1 (hK _ ?_) | refine j4 (hK _ _ (x4 (by kernel_rfl)) ?_)); clear hK K)); (first | show AWP _ _ _ _ _ | ((try simp only [j7]); first | show loopQ _ _ _ _ _ _ | show cutQ _ _ _ _ | show AWP _ _ _ _ _))) | ((first | refine x10 rfl rfl rfl ?_ | refine j10 rfl rfl rfl ?_); simp (maxSteps := 2000000) (disch := omega) only [go_sem, seval, hd, cb, ruleD, r1, r2, q]; (first | refine ⟨_, tc, ?_⟩ | refine ⟨_, hw, ?_⟩)) | ((first | refine z7 [] rfl ?_ | refine x7 [] rfl ?_); simp (maxSteps := 2000000) (disch := omega) only [go_sem, seval, hd, cb, ruleD, r1, r2, q]; (repeat (first | refine ⟨by omega, ?_⟩ | refine ⟨True.intro, ?_⟩)))))
      refine x8 ⟨_, ?_, rfl⟩; rw [Try.results22]; simp (disch := omega) only [ResVars, ResVar, ptrLoc, go_sem, seval, hd, cb, ruleD, r1, r2, q]
end Go.Proofs.Ytbiildleaelodaa
set_option linter.unusedSimpArgs false
set_option linter.unusedVariables false
namespace Go.Proofs.Ytbiildleaelodaa
open Go.Proofs.Ytbiildleaelodaa.AL
structure Spot where
  sw : Int
  po : Int
deriving DecidableEq
def s0 : Spot := ⟨0, 0⟩
end Go.Proofs.Ytbiildleaelodaa
set_option linter.unusedSimpArgs false
set_option linter.unusedVariables false
namespace Go.Proofs.Ytbiildleaelodaa
open Go.Proofs.Ytbiildleaelodaa.AL
def allF (f : Nat → Bool) (n i : Nat) : Bool := (List.range' i (n - i)).all f
theorem allF_step {f : Nat → Bool} {n i : Nat} (h : i < n) : allF f n i = (f i && allF f n (i + 1)) := by
  unfold allF
  rw [show n - i = (n - (i + 1)) + 1 by omega, List.range'_succ, List.all_cons]
theorem allF_done {f : Nat → Bool} {n i : Nat} (h : n ≤ i) : allF f n i = true := by
  unfold allF
  rw [show n - i = 0 by omega]; rfl
end Go.Proofs.Ytbiildleaelodaa
set_option linter.unusedSimpArgs false
set_option linter.unusedVariables false
namespace Go.Proofs.Ytbiildleaelodaa
open Go.Proofs.Ytbiildleaelodaa.AL
end Go.Proofs.Ytbiildleaelodaa
set_option linter.unusedSimpArgs false
set_option linter.unusedVariables false
namespace Go.Proofs.Ytbiildleaelodaa
open Go.Proofs.Ytbiildleaelodaa.AL
def rowRR (l : List (List Rule)) : Nat → List Dat := fun i => [.sl 12 (l.getD i []).length (rowR (l.getD i []))]
theorem rowRR_at (l : List (List Rule)) (i : Nat) : rowRR l i = [.sl 12 (l.getD i []).length (rowR (l.getD i []))] := rfl
def smallR (t : List (List Rule)) : Prop := t.length ≤ 1048576 ∧ ∀ l ∈ t, l.length ≤ 1048576
theorem smallR_at {t : List (List Rule)} (h : smallR t) (i : Nat) : (t.getD i []).length ≤ 1048576 := by
  by_cases hi : i < t.length
  · exact h.2 _ (getD_in hi [])
  · rw [List.getD_eq_getElem?_getD, List.getElem?_eq_none (by omega)]; simp
def sumR (ts : List (List Rule)) : Nat → Nat
  | 0 => 0
  | i + 1 => sumR ts i + (ts.getD i []).length
theorem sumR_le {ts : List (List Rule)} (h : smallR ts) : ∀ i, sumR ts i ≤ i * 1048576
  | 0 => Nat.le_refl _
  | i + 1 => by
    have h1 := sumR_le h i
    have h2 := smallR_at h i
    unfold sumR
    omega
def ruleOk (ts : List (List Rule)) (ps : List Port) (i k : Nat) : Bool := soundR ((ts.getD i []).getD k r0) i ps && decide (((ts.getD i []).getD k r0).tb < ts.length)
def tabOk (ts : List (List Rule)) (ps : List Port) (i : Nat) : Bool := allF (ruleOk ts ps i) (ts.getD i []).length 0
def soundTab (ts : List (List Rule)) (ps : List Port) : Int := if ts.length = 0 ∨ 3 < ts.length then 4 else if 96 < sumR ts ts.length then 12 else if allF (tabOk ts ps) ts.length 0 = true then 0 else 2
def tabI (ts : List (List Rule)) (ps : List Port) (i : Fin (ts.length + 1)) : ASt :=
  ⟨[(22, .p (.d (.v (.int .i64 (i.val : Int))))), (21, .p (.d (.v (.int .i64 (ts.length : Int))))), (20, .p (.d (.sl 1 ts.length (rowRR ts)))), (5, .p (.d (.v (.int .i64 (sumR ts i.val : Int))))), (1, .p (.d (.sl 5 ps.length (rowP ps)))), (0, .p (.d (.sl 1 ts.length (rowRR ts))))], []⟩
def tabJ (ts : List (List Rule)) (ps : List Port) (R : Int) (s : {i : Nat // i ≤ ts.length ∧ (if allF (tabOk ts ps) ts.length i = true then 0 else 2) = R}) : ASt :=
  ⟨[(35, .p (.d (.v (.int .i64 (s.val : Int))))), (34, .p (.d (.v (.int .i64 (ts.length : Int))))), (33, .p (.d (.sl 1 ts.length (rowRR ts)))), (1, .p (.d (.sl 5 ps.length (rowP ps)))), (0, .p (.d (.sl 1 ts.length (rowRR ts))))], []⟩
def tabK (ts : List (List Rule)) (ps : List Port) (R : Int) (i : Nat) (l : List Rule) (s : {k : Nat // k ≤ l.length ∧ (if (allF (ruleOk ts ps i) l.length k && allF (tabOk ts ps) ts.length (i + 1)) = true then 0 else 2) = R}) : ASt :=
  ⟨[(42, .p (.d (.v (.int .i64 (s.val : Int))))), (41, .p (.d (.v (.int .i64 (l.length : Int))))), (40, .p (.d (.sl 12 l.length (rowR l)))), (35, .p (.d (.v (.int .i64 (i : Int))))), (34, .p (.d (.v (.int .i64 (ts.length : Int))))), (33, .p (.d (.sl 1 ts.length (rowRR ts)))), (8, .p (.d (.v (.int .i64 (i : Int))))), (1, .p (.d (.sl 5 ps.length (rowP ps)))), (0, .p (.d (.sl 1 ts.length (rowRR ts))))], []⟩
set_option maxRecDepth 100000 in
set_option maxHeartbeats 4000000 in
theorem SoundTab_c (ts : List (List Rule)) (ps : List Port) (ht : smallR ts) (hp : ps.length ≤ 1048576) : ACalls Try.prog 18 [.d (.sl 1 ts.length (rowRR ts)), .d (.sl 5 ps.length (rowP ps))] (· = [.d (.v (.int .i64 (soundTab ts ps)))]) := by
  have hs := smallR_at ht
  have hsum := sumR_le ht
  have ht1 := ht.1
  unfold soundTab
  by_cases h0 : ts.length = 0
  · rw [if_pos (.inl h0)]
    have q : ((ts.length : Int) == 0) = true := ieq_tt (by omega)
    refine q11 Try.func18 rfl (by decide +kernel) (by rw [Try.ntmps18]; simp) ?_; rw [Try.ntmps18]; simp only [frOf]
    (repeat (first | refine j0 ?_ | refine j6 rfl ?_ | refine q7 rfl ?_ | refine q6 ?_ | (refine z2 fun K hK => ?_) | (refine x3 (by kernel_rfl) (by kernel_rfl) fun K hK => ?_) | ((first | refine x5 ?_ | refine j5 ?_ | ((first | refine z1 (hK _ ?_) | refine j4 (hK _ _ (x4 (by kernel_rfl)) ?_)); clear hK K)); (first | show AWP _ _ _ _ _ | ((try simp only [j7]); first | show loopQ _ _ _ _ _ _ | show cutQ _ _ _ _ | show AWP _ _ _ _ _))) | ((first | refine z7 [] rfl ?_ | refine x7 [] rfl ?_); simp (maxSteps := 2000000) (disch := omega) only [go_sem, seval, hd, cb, ruleD, portD, q]; (repeat (first | refine ⟨by omega, ?_⟩ | refine ⟨True.intro, ?_⟩)))))
    refine x8 ⟨_, ?_, rfl⟩; rw [Try.results18]; simp (disch := omega) only [ResVars, ResVar, ptrLoc, go_sem, seval, hd, cb, ruleD, portD, q]
  · have q : ((ts.length : Int) == 0) = false := ieq_ff (by omega)
    by_cases h3 : 3 < ts.length
    · rw [if_pos (.inr h3)]
      refine q11 Try.func18 rfl (by decide +kernel) (by rw [Try.ntmps18]; simp) ?_; rw [Try.ntmps18]; simp only [frOf]
      (repeat (first | refine j0 ?_ | refine j6 rfl ?_ | refine q7 rfl ?_ | refine q6 ?_ | (refine z2 fun K hK => ?_) | (refine x3 (by kernel_rfl) (by kernel_rfl) fun K hK => ?_) | ((first | refine x5 ?_ | refine j5 ?_ | ((first | refine z1 (hK _ ?_) | refine j4 (hK _ _ (x4 (by kernel_rfl)) ?_)); clear hK K)); (first | show AWP _ _ _ _ _ | ((try simp only [j7]); first | show loopQ _ _ _ _ _ _ | show cutQ _ _ _ _ | show AWP _ _ _ _ _))) | ((first | refine z7 [] rfl ?_ | refine x7 [] rfl ?_); simp (maxSteps := 2000000) (disch := omega) only [go_sem, seval, hd, cb, ruleD, portD, q]; (repeat (first | refine ⟨by omega, ?_⟩ | refine ⟨True.intro, ?_⟩)))))
      refine x8 ⟨_, ?_, rfl⟩; rw [Try.results18]; simp (disch := omega) only [ResVars, ResVar, ptrLoc, go_sem, seval, hd, cb, ruleD, portD, q]
    · rw [if_neg (by omega)]
      generalize hR : (if allF (tabOk ts ps) ts.length 0 = true then (0 : Int) else 2) = R
      refine q11 Try.func18 rfl (by decide +kernel) (by rw [Try.ntmps18]; simp) ?_; rw [Try.ntmps18]; simp only [frOf]
      (repeat (first | refine j0 ?_ | refine j6 rfl ?_ | refine q7 rfl ?_ | refine q6 ?_ | (refine z2 fun K hK => ?_) | (refine x3 (by kernel_rfl) (by kernel_rfl) fun K hK => ?_) | ((first | refine x5 ?_ | refine j5 ?_ | ((first | refine z1 (hK _ ?_) | refine j4 (hK _ _ (x4 (by kernel_rfl)) ?_)); clear hK K)); (first | show AWP _ _ _ _ _ | ((try simp only [j7]); first | show loopQ _ _ _ _ _ _ | show cutQ _ _ _ _ | show AWP _ _ _ _ _))) | ((first | refine z7 [] rfl ?_ | refine x7 [] rfl ?_); simp (maxSteps := 2000000) (disch := omega) only [go_sem, seval, hd, cb, ruleD, portD, q]; (repeat (first | refine ⟨by omega, ?_⟩ | refine ⟨True.intro, ?_⟩)))))
      refine awp_loop (tabI ts ps) (fun s => ts.length - s.val) ⟨0, by omega⟩ ?_ (fun s => ?_)
      · unfold tabI
        refine Weak.list ?_ ?_; (all_goals simp (disch := omega) only [AllF, AllL, j9, q10, q9, exists_eq_left', Option.some.injEq, go_sem, seval, hd, cb, ruleD, portD]); (all_goals (repeat' (with_reducible apply And.intro))); (all_goals try (first | exact q5 rfl | (refine z10 ?_; omega) | (refine q5 ?_; simp; done)))
      obtain ⟨i, hi⟩ := s
      unfold tabI
      have b1 := hsum i
      by_cases h : i < ts.length
      · have st : sumR ts (i + 1) = sumR ts i + (ts.getD i []).length := rfl
        have r1 := rowRR_at ts i
        have l1 := hs i
        generalize ts.getD i [] = l at r1 st l1
        (repeat (first | refine j0 ?_ | refine j6 rfl ?_ | refine q7 rfl ?_ | refine q6 ?_ | (refine z2 fun K hK => ?_) | (refine x3 (by kernel_rfl) (by kernel_rfl) fun K hK => ?_) | ((first | refine x5 ?_ | refine j5 ?_ | ((first | refine z1 (hK _ ?_) | refine j4 (hK _ _ (x4 (by kernel_rfl)) ?_)); clear hK K)); (first | show AWP _ _ _ _ _ | ((try simp only [j7]); first | show loopQ _ _ _ _ _ _ | show cutQ _ _ _ _ | show AWP _ _ _ _ _))) | ((first | refine z7 [] rfl ?_ | refine x7 [] rfl ?_); simp (maxSteps := 2000000) (disch := omega) only [go_sem, seval, hd, cb, ruleD, portD, r1]; (repeat (first | refine ⟨by omega, ?_⟩ | refine ⟨True.intro, ?_⟩)))))
        refine ⟨⟨i + 1, by omega⟩, by simp only []; omega, ?_⟩
        simp only [st]
        refine Weak.list ?_ ?_; (all_goals simp (disch := omega) only [AllF, AllL, j9, q10, q9, exists_eq_left', Option.some.injEq, go_sem, seval, hd, cb, ruleD, portD, r1]); (all_goals (repeat' (with_reducible apply And.intro))); (all_goals try (first | exact q5 rfl | (refine z10 ?_; omega) | (refine q5 ?_; simp; done)))
      · have e : i = ts.length := by omega
        subst e
        by_cases h96 : 96 < sumR ts ts.length
        · rw [if_pos h96]
          (repeat (first | refine j0 ?_ | refine j6 rfl ?_ | refine q7 rfl ?_ | refine q6 ?_ | (refine z2 fun K hK => ?_) | (refine x3 (by kernel_rfl) (by kernel_rfl) fun K hK => ?_) | ((first | refine x5 ?_ | refine j5 ?_ | ((first | refine z1 (hK _ ?_) | refine j4 (hK _ _ (x4 (by kernel_rfl)) ?_)); clear hK K)); (first | show AWP _ _ _ _ _ | ((try simp only [j7]); first | show loopQ _ _ _ _ _ _ | show cutQ _ _ _ _ | show AWP _ _ _ _ _))) | ((first | refine z7 [] rfl ?_ | refine x7 [] rfl ?_); simp (maxSteps := 2000000) (disch := omega) only [go_sem, seval, hd, cb, ruleD, portD]; (repeat (first | refine ⟨by omega, ?_⟩ | refine ⟨True.intro, ?_⟩)))))
          refine x8 ⟨_, ?_, rfl⟩; rw [Try.results18]; simp (disch := omega) only [ResVars, ResVar, ptrLoc, go_sem, seval, hd, cb, ruleD, portD]
        · rw [if_neg h96]
          (repeat (first | refine j0 ?_ | refine j6 rfl ?_ | refine q7 rfl ?_ | refine q6 ?_ | (refine z2 fun K hK => ?_) | (refine x3 (by kernel_rfl) (by kernel_rfl) fun K hK => ?_) | ((first | refine x5 ?_ | refine j5 ?_ | ((first | refine z1 (hK _ ?_) | refine j4 (hK _ _ (x4 (by kernel_rfl)) ?_)); clear hK K)); (first | show AWP _ _ _ _ _ | ((try simp only [j7]); first | show loopQ _ _ _ _ _ _ | show cutQ _ _ _ _ | show AWP _ _ _ _ _))) | ((first | refine z7 [] rfl ?_ | refine x7 [] rfl ?_); simp (maxSteps := 2000000) (disch := omega) only [go_sem, seval, hd, cb, ruleD, portD]; (repeat (first | refine ⟨by omega, ?_⟩ | refine ⟨True.intro, ?_⟩)))))
          refine awp_loop (tabJ ts ps R) (fun s => ts.length - s.val) ⟨0, Nat.zero_le _, hR⟩ ?_ (fun s => ?_)
          · unfold tabJ
            refine Weak.list ?_ ?_; (all_goals simp (disch := omega) only [AllF, AllL, j9, q10, q9, exists_eq_left', Option.some.injEq, go_sem, seval, hd, cb, ruleD, portD]); (all_goals (repeat' (with_reducible apply And.intro))); (all_goals try (first | exact q5 rfl | (refine z10 ?_; omega) | (refine q5 ?_; simp; done)))
          clear hi h b1
          obtain ⟨i, hi, hr⟩ := s
          unfold tabJ
          simp only [] at hi hr ⊢
          by_cases h : i < ts.length
          · rw [allF_step h] at hr
            have hq : tabOk ts ps i = allF (ruleOk ts ps i) (ts.getD i []).length 0 := rfl
            rw [hq] at hr
            have hk0 : ∀ k, ruleOk ts ps i k = (soundR ((ts.getD i []).getD k r0) i ps && decide (((ts.getD i []).getD k r0).tb < ts.length)) := fun k => rfl
            have r1 := rowRR_at ts i
            have l1 := hs i
            generalize ts.getD i [] = l at r1 hr l1 hk0
            (repeat (first | refine j0 ?_ | refine j6 rfl ?_ | refine q7 rfl ?_ | refine q6 ?_ | (refine z2 fun K hK => ?_) | (refine x3 (by kernel_rfl) (by kernel_rfl) fun K hK => ?_) | ((first | refine x5 ?_ | refine j5 ?_ | ((first | refine z1 (hK _ ?_) | refine j4 (hK _ _ (x4 (by kernel_rfl)) ?_)); clear hK K)); (first | show AWP _ _ _ _ _ | ((try simp only [j7]); first | show loopQ _ _ _ _ _ _ | show cutQ _ _ _ _ | show AWP _ _ _ _ _))) | ((first | refine z7 [] rfl ?_ | refine x7 [] rfl ?_); simp (maxSteps := 2000000) (disch := omega) only [go_sem, seval, hd, cb, ruleD, portD, r1]; (repeat (first | refine ⟨by omega, ?_⟩ | refine ⟨True.intro, ?_⟩)))))
            refine awp_loop (tabK ts ps R i l) (fun s => l.length - s.val) ⟨0, Nat.zero_le _, hr⟩ ?_ (fun s => ?_)
            · unfold tabK
              refine Weak.list ?_ ?_; (all_goals simp (disch := omega) only [AllF, AllL, j9, q10, q9, exists_eq_left', Option.some.injEq, go_sem, seval, hd, cb, ruleD, portD]); (all_goals (repeat' (with_reducible apply And.intro))); (all_goals try (first | exact q5 rfl | (refine z10 ?_; omega) | (refine q5 ?_; simp; done)))
            clear hr
            obtain ⟨k, hk, hr⟩ := s
            unfold tabK
            simp only [] at hk hr ⊢
            by_cases h2 : k < l.length
            · rw [allF_step h2, hk0 k] at hr
              have r2 := rowR_at l k
              generalize l.getD k r0 = x at hr r2
              have c := SoundRule_c x i ps (by omega)
              generalize soundR x i ps = b at hr c
              cases b
              · simp only [Bool.false_and, Bool.false_eq_true, if_false] at hr
                subst hr
                (repeat (first | refine j0 ?_ | refine j6 rfl ?_ | refine q7 rfl ?_ | refine q6 ?_ | (refine z2 fun K hK => ?_) | (refine x3 (by kernel_rfl) (by kernel_rfl) fun K hK => ?_) | ((first | refine x5 ?_ | refine j5 ?_ | ((first | refine z1 (hK _ ?_) | refine j4 (hK _ _ (x4 (by kernel_rfl)) ?_)); clear hK K)); (first | show AWP _ _ _ _ _ | ((try simp only [j7]); first | show loopQ _ _ _ _ _ _ | show cutQ _ _ _ _ | show AWP _ _ _ _ _))) | ((first | refine x10 rfl rfl rfl ?_ | refine j10 rfl rfl rfl ?_); simp (maxSteps := 2000000) (disch := omega) only [go_sem, seval, hd, cb, ruleD, portD, r2]; (first | refine ⟨_, c, ?_⟩)) | ((first | refine z7 [] rfl ?_ | refine x7 [] rfl ?_); simp (maxSteps := 2000000) (disch := omega) only [go_sem, seval, hd, cb, ruleD, portD, r2]; (repeat (first | refine ⟨by omega, ?_⟩ | refine ⟨True.intro, ?_⟩)))))
                refine x8 ⟨_, ?_, rfl⟩; rw [Try.results18]; simp (disch := omega) only [ResVars, ResVar, ptrLoc, go_sem, seval, hd, cb, ruleD, portD, r2]
              · rw [Bool.true_and] at hr
                by_cases h5 : x.tb < ts.length
                · rw [decide_eq_true h5, Bool.true_and] at hr
                  (repeat (first | refine j0 ?_ | refine j6 rfl ?_ | refine q7 rfl ?_ | refine q6 ?_ | (refine z2 fun K hK => ?_) | (refine x3 (by kernel_rfl) (by kernel_rfl) fun K hK => ?_) | ((first | refine x5 ?_ | refine j5 ?_ | ((first | refine z1 (hK _ ?_) | refine j4 (hK _ _ (x4 (by kernel_rfl)) ?_)); clear hK K)); (first | show AWP _ _ _ _ _ | ((try simp only [j7]); first | show loopQ _ _ _ _ _ _ | show cutQ _ _ _ _ | show AWP _ _ _ _ _))) | ((first | refine x10 rfl rfl rfl ?_ | refine j10 rfl rfl rfl ?_); simp (maxSteps := 2000000) (disch := omega) only [go_sem, seval, hd, cb, ruleD, portD, r2]; (first | refine ⟨_, c, ?_⟩)) | ((first | refine z7 [] rfl ?_ | refine x7 [] rfl ?_); simp (maxSteps := 2000000) (disch := omega) only [go_sem, seval, hd, cb, ruleD, portD, r2]; (repeat (first | refine ⟨by omega, ?_⟩ | refine ⟨True.intro, ?_⟩)))))
                  refine ⟨⟨k + 1, by omega, hr⟩, by simp only []; omega, ?_⟩
                  refine Weak.list ?_ ?_; (all_goals simp (disch := omega) only [AllF, AllL, j9, q10, q9, exists_eq_left', Option.some.injEq, go_sem, seval, hd, cb, ruleD, portD, r2]); (all_goals (repeat' (with_reducible apply And.intro))); (all_goals try (first | exact q5 rfl | (refine z10 ?_; omega) | (refine q5 ?_; simp; done)))
                · rw [decide_eq_false h5] at hr
                  simp only [Bool.false_and, Bool.false_eq_true, if_false] at hr
                  subst hr
                  (repeat (first | refine j0 ?_ | refine j6 rfl ?_ | refine q7 rfl ?_ | refine q6 ?_ | (refine z2 fun K hK => ?_) | (refine x3 (by kernel_rfl) (by kernel_rfl) fun K hK => ?_) | ((first | refine x5 ?_ | refine j5 ?_ | ((first | refine z1 (hK _ ?_) | refine j4 (hK _ _ (x4 (by kernel_rfl)) ?_)); clear hK K)); (first | show AWP _ _ _ _ _ | ((try simp only [j7]); first | show loopQ _ _ _ _ _ _ | show cutQ _ _ _ _ | show AWP _ _ _ _ _))) | ((first | refine x10 rfl rfl rfl ?_ | refine j10 rfl rfl rfl ?_); simp (maxSteps := 2000000) (disch := omega) only [go_sem, seval, hd, cb, ruleD, portD, r2]; (first | refine ⟨_, c, ?_⟩)) | ((first | refine z7 [] rfl ?_ | refine x7 [] rfl ?_); simp (maxSteps := 2000000) (disch := omega) only [go_sem, seval, hd, cb, ruleD, portD, r2]; (repeat (first | refine ⟨by omega, ?_⟩ | refine ⟨True.intro, ?_⟩)))))
                  refine x8 ⟨_, ?_, rfl⟩; rw [Try.results18]; simp (disch := omega) only [ResVars, ResVar, ptrLoc, go_sem, seval, hd, cb, ruleD, portD, r2]
            · rw [allF_done (show l.length ≤ k by omega), Bool.true_and] at hr
              (repeat (first | refine j0 ?_ | refine j6 rfl ?_ | refine q7 rfl ?_ | refine q6 ?_ | (refine z2 fun K hK => ?_) | (refine x3 (by kernel_rfl) (by kernel_rfl) fun K hK => ?_) | ((first | refine x5 ?_ | refine j5 ?_ | ((first | refine z1 (hK _ ?_) | refine j4 (hK _ _ (x4 (by kernel_rfl)) ?_)); clear hK K)); (first | show AWP _ _ _ _ _ | ((try simp only [j7]); first | show loopQ _ _ _ _ _ _ | show cutQ _ _ _ _ | show AWP _ _ _ _ _))) | ((first | refine z7 [] rfl ?_ | refine x7 [] rfl ?_); simp (maxSteps := 2000000) (disch := omega) only [go_sem, seval, hd, cb, ruleD, portD]; (repeat (first | refine ⟨by omega, ?_⟩ | refine ⟨True.intro, ?_⟩)))))
              refine ⟨⟨i + 1, by omega, hr⟩, by simp only []; omega, ?_⟩
              refine Weak.list ?_ ?_; (all_goals simp (disch := omega) only [AllF, AllL, j9, q10, q9, exists_eq_left', Option.some.injEq, go_sem, seval, hd, cb, ruleD, portD]); (all_goals (repeat' (with_reducible apply And.intro))); (all_goals try (first | exact q5 rfl | (refine z10 ?_; omega) | (refine q5 ?_; simp; done)))
          · rw [allF_done (by omega), if_pos rfl] at hr
            subst hr
            (repeat (first | refine j0 ?_ | refine j6 rfl ?_ | refine q7 rfl ?_ | refine q6 ?_ | (refine z2 fun K hK => ?_) | (refine x3 (by kernel_rfl) (by kernel_rfl) fun K hK => ?_) | ((first | refine x5 ?_ | refine j5 ?_ | ((first | refine z1 (hK _ ?_) | refine j4 (hK _ _ (x4 (by kernel_rfl)) ?_)); clear hK K)); (first | show AWP _ _ _ _ _ | ((try simp only [j7]); first | show loopQ _ _ _ _ _ _ | show cutQ _ _ _ _ | show AWP _ _ _ _ _))) | ((first | refine z7 [] rfl ?_ | refine x7 [] rfl ?_); simp (maxSteps := 2000000) (disch := omega) only [go_sem, seval, hd, cb, ruleD, portD]; (repeat (first | refine ⟨by omega, ?_⟩ | refine ⟨True.intro, ?_⟩)))))
            refine x8 ⟨_, ?_, rfl⟩; rw [Try.results18]; simp (disch := omega) only [ResVars, ResVar, ptrLoc, go_sem, seval, hd, cb, ruleD, portD]
end Go.Proofs.Ytbiildleaelodaa
set_option linter.unusedSimpArgs false
set_option linter.unusedVariables false
namespace Go.Proofs.Ytbiildleaelodaa
open Go Go.Proofs.Ytbiildleaelodaa.AL
def DLe (x y : Dat) : Prop := ∀ (w : World) (g : Nat → Nat) (v : Value), RelD w g v x → RelD w g v y
inductive DLes : List Dat → List Dat → Prop
  | nil : DLes [] []
  | cons {x y : Dat} {xs ys : List Dat} (h : DLe x y) (t : DLes xs ys) : DLes (x :: xs) (y :: ys)
theorem dle_refl (x : Dat) : DLe x x := fun _ _ _ h => h
theorem DLes.refl : ∀ xs : List Dat, DLes xs xs
  | [] => .nil
  | x :: xs => .cons (dle_refl x) (DLes.refl xs)
theorem DLes.of_eq {xs ys : List Dat} (h : xs = ys) : DLes xs ys := h ▸ DLes.refl xs
theorem DLes.length {xs ys : List Dat} (h : DLes xs ys) : xs.length = ys.length := by
  induction h with
  | nil => rfl
  | cons _ _ ih => simp [ih]
theorem DLes.at {xs ys : List Dat} (h : DLes xs ys) : ∀ {j : Nat} {y : Dat}, ys[j]? = some y → ∃ x, xs[j]? = some x ∧ DLe x y := by
  induction h with
  | nil => intro j y h; simp at h
  | cons h t ih =>
    intro j y hy
    cases j with
    | zero => simp at hy; subst hy; exact ⟨_, by simp, h⟩
    | succ j => simp at hy; obtain ⟨x, h1, h2⟩ := ih hy; exact ⟨x, by simpa using h1, h2⟩
theorem dle_sl {sz n n' : Nat} {f f' : Nat → List Dat} (hn : n = n') (hf : ∀ i, i < n → DLes (f i) (f' i)) : DLe (.sl sz n f) (.sl sz n' f') := by
  subst hn
  intro w g v r
  cases r with
  | sl0 a c sz f => exact .sl0 _ _ _ _
  | sl b off n c sz f u h1 h2 h3 h4 h5 =>
    refine .sl b off n c sz f' u h1 (fun i hi => by rw [← (hf i hi).length]; exact h2 i hi) h3 h4 (fun i j y hi hy => ?_)
    obtain ⟨x, k1, k2⟩ := (hf i hi).at hy
    exact k2 _ _ _ (h5 i j x hi k1)
theorem dle_emp {a : Option Addr} {c sz : Nat} {f : Nat → List Dat} : DLe (.v (.slice a 0 c)) (.sl sz 0 f) := by
  intro w g v r
  cases r
  exact .sl0 _ _ _ _
theorem ple_d {x y : Dat} (h : DLe x y) : PLe (.d x) (.d y) := by
  intro w g v r
  cases r with
  | d _ _ r => exact .d _ _ (h _ _ _ r)
end Go.Proofs.Ytbiildleaelodaa
set_option linter.unusedSimpArgs false
set_option linter.unusedVariables false
namespace Go.Proofs.Ytbiildleaelodaa
open Go.Proofs.Ytbiildleaelodaa.AL
def tA : List Rule := [⟨1, ⟨0, 0⟩, 1, 0, 0, ⟨0, 0⟩⟩, ⟨2, ⟨1, 1⟩, 1, 0, 0, ⟨0, 0⟩⟩, ⟨0, ⟨1, 1⟩, 1, 0, 0, ⟨0, 0⟩⟩]
def tl (pr m : Int) : List Dat := [.v (.int .i64 pr), .v (.int .u64 0), .v (.int .u64 m), .v (.int .u64 0), .v (.int .u64 m), .v (.int .i64 1), .v (.int .i64 0), .v (.int .i64 0), .v (.int .u64 0), .v (.int .u64 0), .v (.int .u64 0), .v (.int .u64 0)]
theorem tA_row (i : Nat) (hi : i < 3) : [tl 1 0, tl 2 1, tl 0 1].getD i [] = rowR tA i := by
  match i, hi with
  | 0, _ => simp [rowR, tA, ruleD, tl, hi0, lo0]
  | 1, _ => simp [rowR, tA, ruleD, tl, hi0, lo0, hi1, lo1]
  | 2, _ => simp [rowR, tA, ruleD, tl, hi0, lo0, hi1, lo1]
theorem hd3 : hd 3#128 = [.v (.int .u64 0), .v (.int .u64 3)] := by unfold hd; rw [show hi 3#128 = 0 from by decide, show lo 3#128 = 3 from by decide]
theorem hd2 : hd 2#128 = [.v (.int .u64 0), .v (.int .u64 2)] := by unfold hd; rw [show hi 2#128 = 0 from by decide, show lo 2#128 = 2 from by decide]
set_option maxRecDepth 100000 in
set_option maxHeartbeats 8000000 in
theorem awake6_c : ACalls Try.prog 17 [] (· = [.d (.v (.bool true))]) := by
  have f1 := Find_c tA 3#128 (by decide)
  have f2 := Find_c tA 2#128 (by decide)
  rw [show findR tA 3#128 = some 1 from by decide +kernel, hd3] at f1
  rw [show findR tA 2#128 = some 0 from by decide +kernel, hd2] at f2
  have f3 := Seen_c tA 0 (by decide) (by decide)
  rw [show (seenR tA 0).2 = 0 from by decide +kernel, show (seenR tA 0).1.length = 1 from by decide +kernel] at f3
  generalize rowC (seenR tA 0).1 = rw0 at f3
  have f4 := Idle_c tA (by decide)
  rw [show idleR tA = ([2], 0) from by decide +kernel] at f4
  have f5 := SoundTab_c [tA] [] (by unfold smallR; simp [tA]) (by simp)
  rw [show soundTab [tA] [] = 0 from by decide +kernel] at f5
  have g1 := acalls_sl (P := Try.prog) (n' := 3) rfl tA_row f1
  have g2 := acalls_sl (P := Try.prog) (n' := 3) rfl tA_row f2
  have g3 := acalls_sl (P := Try.prog) (n' := 3) rfl tA_row f3
  have g4 := acalls_sl (P := Try.prog) (n' := 3) rfl tA_row f4
  have g5 : ACalls Try.prog 18 [.d (.sl 1 1 fun i => [[Dat.sl 12 3 fun i => [tl 1 0, tl 2 1, tl 0 1].getD i []]].getD i []), .d (.v (.slice none 0 0))] (· = [.d (.v (.int .i64 0))]) := by
    refine acalls_le (.cons (ple_d (dle_sl rfl fun i hi => ?_)) (.cons (ple_d dle_emp) .nil)) f5
    have : i = 0 := by omega
    subst this
    exact .cons (dle_sl rfl fun i hi => .of_eq (tA_row i hi)) .nil
  clear f1 f2 f3 f4 f5
  have e0 : rowI [2] 0 = [.v (.int .i64 2)] := rfl
  simp only [List.length_singleton, Option.getD_some, Option.isSome_some, Int.cast_ofNat_Int] at g1 g2 g3 g4
  unfold tl at *
  refine q11 Try.func17 rfl (by decide +kernel) (by rw [Try.ntmps17]; simp) ?_; rw [Try.ntmps17]; simp only [frOf]
  (repeat (first | refine j0 ?_ | refine j6 rfl ?_ | refine q7 rfl ?_ | refine q6 ?_ | (refine z2 fun K hK => ?_) | (refine x3 (by kernel_rfl) (by kernel_rfl) fun K hK => ?_) | ((first | refine x5 ?_ | refine j5 ?_ | ((first | refine z1 (hK _ ?_) | refine j4 (hK _ _ (x4 (by kernel_rfl)) ?_)); clear hK K)); (first | show AWP _ _ _ _ _ | ((try simp only [j7]); first | show loopQ _ _ _ _ _ _ | show cutQ _ _ _ _ | show AWP _ _ _ _ _))) | ((first | refine x10 rfl rfl rfl ?_ | refine j10 rfl rfl rfl ?_); simp (maxSteps := 2000000) (disch := omega) only [go_sem, seval, hd, cb, ruleD, e0]; (first | refine ⟨_, g1, ?_⟩ | refine ⟨_, g2, ?_⟩ | refine ⟨_, g3, ?_⟩ | refine ⟨_, g4, ?_⟩ | refine ⟨_, g5, ?_⟩)) | ((first | refine z7 [] rfl ?_ | refine x7 [] rfl ?_); simp (maxSteps := 2000000) (disch := omega) only [go_sem, seval, hd, cb, ruleD, e0]; (repeat (first | refine ⟨by omega, ?_⟩ | refine ⟨True.intro, ?_⟩)))))
  refine x8 ⟨_, ?_, rfl⟩; rw [Try.results17]; simp (disch := omega) only [ResVars, ResVar, ptrLoc, go_sem, seval, hd, cb, ruleD, e0]
end Go.Proofs.Ytbiildleaelodaa
set_option linter.unusedSimpArgs false
set_option linter.unusedVariables false
namespace Go.Proofs.Ytbiildleaelodaa
open Go.Proofs.Ytbiildleaelodaa.AL
theorem few_c (l : List Rule) (hl : l.length ≤ 1099511627776) : ACalls Try.prog 20 [.d (.sl 12 l.length (rowR l))] (· = [.d (.sl 12 (l.take 8).length (rowR (l.take 8)))]) := by
  by_cases h : l.length > 8
  all_goals
    refine q11 Try.func20 rfl (by decide +kernel) (by rw [Try.ntmps20]; simp) ?_; rw [Try.ntmps20]; simp only [frOf]
    (repeat (first | refine j0 ?_ | refine j6 rfl ?_ | refine q7 rfl ?_ | refine q6 ?_ | (refine z2 fun K hK => ?_) | (refine x3 (by kernel_rfl) (by kernel_rfl) fun K hK => ?_) | ((first | refine x5 ?_ | refine j5 ?_ | ((first | refine z1 (hK _ ?_) | refine j4 (hK _ _ (x4 (by kernel_rfl)) ?_)); clear hK K)); (first | show AWP _ _ _ _ _ | ((try simp only [j7]); first | show loopQ _ _ _ _ _ _ | show cutQ _ _ _ _ | show AWP _ _ _ _ _))) | ((first | refine z7 [] rfl ?_ | refine x7 [] rfl ?_); simp (maxSteps := 2000000) (disch := omega) only [go_sem, seval, hd, cb, ruleD]; (repeat (first | refine ⟨by omega, ?_⟩ | refine ⟨True.intro, ?_⟩)))))
  · refine awp_slot 2 _ (.p (.d (.sl 12 (l.take 8).length (rowR (l.take 8))))) rfl (le_sl (by simp; omega) (fun i hi => ?_)) ?_
    · unfold rowR
      simp only [List.getD_eq_getElem?_getD]
      rw [List.getElem?_take_of_lt (by omega)]
    refine x8 ⟨_, ?_, rfl⟩; rw [Try.results20]; simp (disch := omega) only [ResVars, ResVar, ptrLoc, go_sem, seval, hd, cb, ruleD]
  · rw [List.take_of_length_le (by omega)]
    refine x8 ⟨_, ?_, rfl⟩; rw [Try.results20]; simp (disch := omega) only [ResVars, ResVar, ptrLoc, go_sem, seval, hd, cb, ruleD]
theorem withoutR_or (l : List Rule) (ids : List Nat) (p : List Cube) : (withoutR l ids p).2 = 0 ∨ (withoutR l ids p).1 = [] := by
  unfold withoutR
  split
  · have go : ∀ (ids : List Nat) (p : List Cube), (woGo l ids p).2 = 0 ∨ (woGo l ids p).1 = [] := by
      intro ids
      induction ids with
      | nil => intro p; exact .inl rfl
      | cons n r ih =>
        intro p
        unfold woGo
        split
        · exact ih _
        · exact .inr rfl
    exact go ids p
  · exact .inr rfl
theorem woGo_sound {l : List Rule} (hs : soundL l = true) : ∀ (ids : List Nat) (p : List Cube), (∀ n ∈ ids, n < l.length) → (∀ k ∈ p, k.sound = true) → (woGo l ids p).2 = 0 →
    (∀ k ∈ (woGo l ids p).1, k.sound = true) ∧ ∀ h, hasP (woGo l ids p).1 h = (hasP p h && ids.all fun n => !hasC (l.getD n r0).mt h)
  | [], p, _, hp, _ => ⟨hp, fun h => by simp [woGo]⟩
  | n :: r, p, hi, hp, he => by
    have hn := soundL_at hs (hi n (by simp))
    unfold woGo at he ⊢
    split at he
    · rename_i h0
      rw [if_pos h0]
      have hh := fun h => less_has h [(l.getD n r0).mt] p (fun k hk => by rw [List.mem_singleton] at hk; subst hk; exact hn) hp h0
      obtain ⟨a1, a2⟩ := woGo_sound hs r _ (fun k hk => hi k (by simp [hk])) (hh 0).2 he
      refine ⟨a1, fun h => ?_⟩
      rw [a2, (hh h).1, List.all_cons]
      unfold hasP
      simp [Bool.and_assoc]
    · rename_i h0
      exact absurd he h0
theorem withoutR_sound {l : List Rule} {ids : List Nat} {p : List Cube} (hi : ∀ n ∈ ids, n < l.length) (hp : soundL l = true → ∀ k ∈ p, k.sound = true) (he : (withoutR l ids p).2 = 0) :
    (∀ k ∈ (withoutR l ids p).1, k.sound = true) ∧ ∀ h, hasP (withoutR l ids p).1 h = (hasP p h && ids.all fun n => !hasC (l.getD n r0).mt h) := by
  unfold withoutR at *
  split at he
  · rename_i hs
    rw [if_pos hs]
    exact woGo_sound hs ids p hi (hp hs) he
  · cases he
theorem seenR_sound {l : List Rule} {n : Nat} (hn : n < l.length) (he : (seenR l n).2 = 0) : ∀ k ∈ (seenR l n).1, k.sound = true :=
  (withoutR_sound (fun k hk => orderR_lt (List.mem_of_mem_take hk)) (fun hs k hk => by simp at hk; subst hk; exact soundL_at hs hn) he).1
theorem missedR_sound {l : List Rule} (he : (missedR l).2 = 0) : ∀ k ∈ (missedR l).1, k.sound = true :=
  (withoutR_sound (fun k hk => orderR_lt hk) (fun hs k hk => by simp at hk; subst hk; rfl) he).1
theorem withoutR_len (l : List Rule) (ids : List Nat) (p : List Cube) (hp : p.length ≤ 200) : (withoutR l ids p).1.length ≤ 200 := by
  unfold withoutR
  split
  · have go : ∀ (ids : List Nat) (p : List Cube), p.length ≤ 200 → (woGo l ids p).1.length ≤ 200 := by
      intro ids
      induction ids with
      | nil => intro p h; exact h
      | cons n r ih =>
        intro p h
        unfold woGo
        split
        · exact ih _ (lessP_len _ _ h)
        · simp
    exact go ids p hp
  · simp
set_option maxRecDepth 100000 in
set_option maxHeartbeats 8000000 in
theorem TableSeen_c (l0 : List Rule) (n : Int) (hl0 : l0.length ≤ 1099511627776) : ACalls Try.prog 8 [.d (.sl 12 l0.length (rowR l0)), .d (.v (.int .i64 n))] (· = [.d (.v (.bool true))]) := by
  have k0 := few_c l0 hl0
  have hl : (l0.take 8).length ≤ 8 := by rw [List.length_take]; omega
  generalize l0.take 8 = l at k0 hl
  have k1 := Missed_c l (by omega)
  have k2 := Order_c l (by omega)
  have k3 := Any_c
  have k4 := WithoutT_c l (orderR l) ⟨0, 0⟩ (by omega) (fun n hn => orderR_lt hn) (by rw [orderR_len]; omega) rfl
  have k5 := awake6_c
  rw [orderR_len] at k4
  change ACalls _ _ _ (· = [.d (.sl 1 (missedR l).1.length (rowT (missedR l).1)), .d (.v (.int .i64 (missedR l).2))]) at k4
  have ho := withoutR_or l (orderR l) [⟨0, 0⟩]
  change (missedR l).2 = 0 ∨ (missedR l).1 = [] at ho
  have hms := @missedR_sound l
  have hlen : (missedR l).1.length ≤ 200 := withoutR_len l (orderR l) [⟨0, 0⟩] (by simp)
  generalize missedR l = u at *
  obtain ⟨u, e⟩ := u
  simp only [] at k1 k4 ho hms hlen
  generalize txt ⟨0, 0⟩ = tx at k3 k4
  have q1 : (e != e) = false := ine_ff rfl
  have hq : (e = 0 ∧ ACalls Try.prog 32 [.d (.sl 4 u.length (rowC u)), .d (.sl 1 u.length (rowT u))] (· = [.d (.v (.bool true))])) ∨ (e ≠ 0 ∧ u = []) := by
    by_cases h : e = 0
    · exact .inl ⟨h, SameR_c u (hms h) (by omega)⟩
    · exact .inr ⟨h, ho.resolve_left h⟩
  clear ho hms
  by_cases hn : n < 0 ∨ (l.length : Int) ≤ n
  · have s1 := SeenOut_c l n (by omega) hn
    have hn2 : (decide (n < 0) = true) ∨ (decide (n < 0) = false ∧ decide (n ≥ (l.length : Int)) = true) := by
      by_cases h : n < 0
      · exact .inl (decide_eq_true h)
      · exact .inr ⟨decide_eq_false h, decide_eq_true (by omega)⟩
    rcases hq with ⟨rfl, k6⟩ | ⟨he, rfl⟩
    · rcases hn2 with d1 | ⟨d1, d2⟩
      · refine q11 Try.func8 rfl (by decide +kernel) (by rw [Try.ntmps8]; simp) ?_; rw [Try.ntmps8]; simp only [frOf]
        (repeat (first | refine j0 ?_ | refine j6 rfl ?_ | refine q7 rfl ?_ | refine q6 ?_ | (refine z2 fun K hK => ?_) | (refine x3 (by kernel_rfl) (by kernel_rfl) fun K hK => ?_) | ((first | refine x5 ?_ | refine j5 ?_ | ((first | refine z1 (hK _ ?_) | refine j4 (hK _ _ (x4 (by kernel_rfl)) ?_)); clear hK K)); (first | show AWP _ _ _ _ _ | ((try simp only [j7]); first | show loopQ _ _ _ _ _ _ | show cutQ _ _ _ _ | show AWP _ _ _ _ _))) | ((first | refine x10 rfl rfl rfl ?_ | refine j10 rfl rfl rfl ?_); simp (maxSteps := 2000000) (disch := omega) only [go_sem, seval, hd, cb, ruleD, q1, d1]; (first | refine ⟨_, k0, ?_⟩ | refine ⟨_, s1, ?_⟩ | refine ⟨_, k1, ?_⟩ | refine ⟨_, k2, ?_⟩ | refine ⟨_, k3, ?_⟩ | refine ⟨_, k4, ?_⟩ | refine ⟨_, k6, ?_⟩ | refine ⟨_, k5, ?_⟩)) | ((first | refine z7 [] rfl ?_ | refine x7 [] rfl ?_); simp (maxSteps := 2000000) (disch := omega) only [go_sem, seval, hd, cb, ruleD, q1, d1]; (repeat (first | refine ⟨by omega, ?_⟩ | refine ⟨True.intro, ?_⟩)))))
        refine x8 ⟨_, ?_, rfl⟩; rw [Try.results8]; simp (disch := omega) only [ResVars, ResVar, ptrLoc, go_sem, seval, hd, cb, ruleD, q1, d1]
      · refine q11 Try.func8 rfl (by decide +kernel) (by rw [Try.ntmps8]; simp) ?_; rw [Try.ntmps8]; simp only [frOf]
        (repeat (first | refine j0 ?_ | refine j6 rfl ?_ | refine q7 rfl ?_ | refine q6 ?_ | (refine z2 fun K hK => ?_) | (refine x3 (by kernel_rfl) (by kernel_rfl) fun K hK => ?_) | ((first | refine x5 ?_ | refine j5 ?_ | ((first | refine z1 (hK _ ?_) | refine j4 (hK _ _ (x4 (by kernel_rfl)) ?_)); clear hK K)); (first | show AWP _ _ _ _ _ | ((try simp only [j7]); first | show loopQ _ _ _ _ _ _ | show cutQ _ _ _ _ | show AWP _ _ _ _ _))) | ((first | refine x10 rfl rfl rfl ?_ | refine j10 rfl rfl rfl ?_); simp (maxSteps := 2000000) (disch := omega) only [go_sem, seval, hd, cb, ruleD, q1, d1, d2]; (first | refine ⟨_, k0, ?_⟩ | refine ⟨_, s1, ?_⟩ | refine ⟨_, k1, ?_⟩ | refine ⟨_, k2, ?_⟩ | refine ⟨_, k3, ?_⟩ | refine ⟨_, k4, ?_⟩ | refine ⟨_, k6, ?_⟩ | refine ⟨_, k5, ?_⟩)) | ((first | refine z7 [] rfl ?_ | refine x7 [] rfl ?_); simp (maxSteps := 2000000) (disch := omega) only [go_sem, seval, hd, cb, ruleD, q1, d1, d2]; (repeat (first | refine ⟨by omega, ?_⟩ | refine ⟨True.intro, ?_⟩)))))
        refine x8 ⟨_, ?_, rfl⟩; rw [Try.results8]; simp (disch := omega) only [ResVars, ResVar, ptrLoc, go_sem, seval, hd, cb, ruleD, q1, d1, d2]
    · have q2 : (e != 0) = true := ine_tt he
      have q3 : (e == 0) = false := ieq_ff he
      rcases hn2 with d1 | ⟨d1, d2⟩
      · refine q11 Try.func8 rfl (by decide +kernel) (by rw [Try.ntmps8]; simp) ?_; rw [Try.ntmps8]; simp only [frOf]
        (repeat (first | refine j0 ?_ | refine j6 rfl ?_ | refine q7 rfl ?_ | refine q6 ?_ | (refine z2 fun K hK => ?_) | (refine x3 (by kernel_rfl) (by kernel_rfl) fun K hK => ?_) | ((first | refine x5 ?_ | refine j5 ?_ | ((first | refine z1 (hK _ ?_) | refine j4 (hK _ _ (x4 (by kernel_rfl)) ?_)); clear hK K)); (first | show AWP _ _ _ _ _ | ((try simp only [j7]); first | show loopQ _ _ _ _ _ _ | show cutQ _ _ _ _ | show AWP _ _ _ _ _))) | ((first | refine x10 rfl rfl rfl ?_ | refine j10 rfl rfl rfl ?_); simp (maxSteps := 2000000) (disch := omega) only [go_sem, seval, hd, cb, ruleD, q1, q2, q3, d1, List.length_nil]; (first | refine ⟨_, k0, ?_⟩ | refine ⟨_, s1, ?_⟩ | refine ⟨_, k1, ?_⟩ | refine ⟨_, k2, ?_⟩ | refine ⟨_, k3, ?_⟩ | refine ⟨_, k4, ?_⟩ | refine ⟨_, k5, ?_⟩)) | ((first | refine z7 [] rfl ?_ | refine x7 [] rfl ?_); simp (maxSteps := 2000000) (disch := omega) only [go_sem, seval, hd, cb, ruleD, q1, q2, q3, d1, List.length_nil]; (repeat (first | refine ⟨by omega, ?_⟩ | refine ⟨True.intro, ?_⟩)))))
        refine x8 ⟨_, ?_, rfl⟩; rw [Try.results8]; simp (disch := omega) only [ResVars, ResVar, ptrLoc, go_sem, seval, hd, cb, ruleD, q1, q2, q3, d1, List.length_nil]
      · refine q11 Try.func8 rfl (by decide +kernel) (by rw [Try.ntmps8]; simp) ?_; rw [Try.ntmps8]; simp only [frOf]
        (repeat (first | refine j0 ?_ | refine j6 rfl ?_ | refine q7 rfl ?_ | refine q6 ?_ | (refine z2 fun K hK => ?_) | (refine x3 (by kernel_rfl) (by kernel_rfl) fun K hK => ?_) | ((first | refine x5 ?_ | refine j5 ?_ | ((first | refine z1 (hK _ ?_) | refine j4 (hK _ _ (x4 (by kernel_rfl)) ?_)); clear hK K)); (first | show AWP _ _ _ _ _ | ((try simp only [j7]); first | show loopQ _ _ _ _ _ _ | show cutQ _ _ _ _ | show AWP _ _ _ _ _))) | ((first | refine x10 rfl rfl rfl ?_ | refine j10 rfl rfl rfl ?_); simp (maxSteps := 2000000) (disch := omega) only [go_sem, seval, hd, cb, ruleD, q1, q2, q3, d1, d2, List.length_nil]; (first | refine ⟨_, k0, ?_⟩ | refine ⟨_, s1, ?_⟩ | refine ⟨_, k1, ?_⟩ | refine ⟨_, k2, ?_⟩ | refine ⟨_, k3, ?_⟩ | refine ⟨_, k4, ?_⟩ | refine ⟨_, k5, ?_⟩)) | ((first | refine z7 [] rfl ?_ | refine x7 [] rfl ?_); simp (maxSteps := 2000000) (disch := omega) only [go_sem, seval, hd, cb, ruleD, q1, q2, q3, d1, d2, List.length_nil]; (repeat (first | refine ⟨by omega, ?_⟩ | refine ⟨True.intro, ?_⟩)))))
        refine x8 ⟨_, ?_, rfl⟩; rw [Try.results8]; simp (disch := omega) only [ResVars, ResVar, ptrLoc, go_sem, seval, hd, cb, ruleD, q1, q2, q3, d1, d2, List.length_nil]
  · obtain ⟨m, rfl⟩ : ∃ m : Nat, n = (m : Int) := ⟨n.toNat, by omega⟩
    have hm : m < l.length := by omega
    have d1 : decide ((m : Int) < 0) = false := decide_eq_false (by omega)
    have d2 : decide ((m : Int) ≥ (l.length : Int)) = false := decide_eq_false (by omega)
    have s1 := Seen_c l m (by omega) hm
    have s2 := SeenRef_c l m (by omega) hm
    have so := withoutR_or l ((orderR l).take ((orderR l).idxOf m)) [(l.getD m r0).mt]
    change (seenR l m).2 = 0 ∨ (seenR l m).1 = [] at so
    have sms := @seenR_sound l m hm
    have slen : (seenR l m).1.length ≤ 200 := withoutR_len l _ _ (by simp)
    generalize seenR l m = v at *
    obtain ⟨v, e2⟩ := v
    simp only [] at s1 s2 so sms slen
    have p1 : (e2 != e2) = false := ine_ff rfl
    have p3 : (e2 == e2) = true := ieq_tt rfl
    have hp : (e2 = 0 ∧ ACalls Try.prog 32 [.d (.sl 4 v.length (rowC v)), .d (.sl 1 v.length (rowT v))] (· = [.d (.v (.bool true))])) ∨ (e2 ≠ 0 ∧ v = []) := by
      by_cases h : e2 = 0
      · exact .inl ⟨h, SameR_c v (sms h) (by omega)⟩
      · exact .inr ⟨h, so.resolve_left h⟩
    clear so sms
    rcases hq with ⟨rfl, k6⟩ | ⟨he, rfl⟩
    · rcases hp with ⟨rfl, s6⟩ | ⟨he2, rfl⟩
      · refine q11 Try.func8 rfl (by decide +kernel) (by rw [Try.ntmps8]; simp) ?_; rw [Try.ntmps8]; simp only [frOf]
        (repeat (first | refine j0 ?_ | refine j6 rfl ?_ | refine q7 rfl ?_ | refine q6 ?_ | (refine z2 fun K hK => ?_) | (refine x3 (by kernel_rfl) (by kernel_rfl) fun K hK => ?_) | ((first | refine x5 ?_ | refine j5 ?_ | ((first | refine z1 (hK _ ?_) | refine j4 (hK _ _ (x4 (by kernel_rfl)) ?_)); clear hK K)); (first | show AWP _ _ _ _ _ | ((try simp only [j7]); first | show loopQ _ _ _ _ _ _ | show cutQ _ _ _ _ | show AWP _ _ _ _ _))) | ((first | refine x10 rfl rfl rfl ?_ | refine j10 rfl rfl rfl ?_); simp (maxSteps := 2000000) (disch := omega) only [go_sem, seval, hd, cb, ruleD, q1, d1, d2, p1, p3]; (first | refine ⟨_, k0, ?_⟩ | refine ⟨_, s1, ?_⟩ | refine ⟨_, k1, ?_⟩ | refine ⟨_, k2, ?_⟩ | refine ⟨_, k3, ?_⟩ | refine ⟨_, k4, ?_⟩ | refine ⟨_, k6, ?_⟩ | refine ⟨_, s2, ?_⟩ | refine ⟨_, k5, ?_⟩ | refine ⟨_, s6, ?_⟩)) | ((first | refine z7 [] rfl ?_ | refine x7 [] rfl ?_); simp (maxSteps := 2000000) (disch := omega) only [go_sem, seval, hd, cb, ruleD, q1, d1, d2, p1, p3]; (repeat (first | refine ⟨by omega, ?_⟩ | refine ⟨True.intro, ?_⟩)))))
        refine x8 ⟨_, ?_, rfl⟩; rw [Try.results8]; simp (disch := omega) only [ResVars, ResVar, ptrLoc, go_sem, seval, hd, cb, ruleD, q1, d1, d2, p1, p3]
      · have p2 : (e2 != 0) = true := ine_tt he2
        refine q11 Try.func8 rfl (by decide +kernel) (by rw [Try.ntmps8]; simp) ?_; rw [Try.ntmps8]; simp only [frOf]
        (repeat (first | refine j0 ?_ | refine j6 rfl ?_ | refine q7 rfl ?_ | refine q6 ?_ | (refine z2 fun K hK => ?_) | (refine x3 (by kernel_rfl) (by kernel_rfl) fun K hK => ?_) | ((first | refine x5 ?_ | refine j5 ?_ | ((first | refine z1 (hK _ ?_) | refine j4 (hK _ _ (x4 (by kernel_rfl)) ?_)); clear hK K)); (first | show AWP _ _ _ _ _ | ((try simp only [j7]); first | show loopQ _ _ _ _ _ _ | show cutQ _ _ _ _ | show AWP _ _ _ _ _))) | ((first | refine x10 rfl rfl rfl ?_ | refine j10 rfl rfl rfl ?_); simp (maxSteps := 2000000) (disch := omega) only [go_sem, seval, hd, cb, ruleD, q1, d1, d2, p1, p2, p3, List.length_nil]; (first | refine ⟨_, k0, ?_⟩ | refine ⟨_, s1, ?_⟩ | refine ⟨_, k1, ?_⟩ | refine ⟨_, k2, ?_⟩ | refine ⟨_, k3, ?_⟩ | refine ⟨_, k4, ?_⟩ | refine ⟨_, k6, ?_⟩ | refine ⟨_, s2, ?_⟩ | refine ⟨_, k5, ?_⟩)) | ((first | refine z7 [] rfl ?_ | refine x7 [] rfl ?_); simp (maxSteps := 2000000) (disch := omega) only [go_sem, seval, hd, cb, ruleD, q1, d1, d2, p1, p2, p3, List.length_nil]; (repeat (first | refine ⟨by omega, ?_⟩ | refine ⟨True.intro, ?_⟩)))))
        refine x8 ⟨_, ?_, rfl⟩; rw [Try.results8]; simp (disch := omega) only [ResVars, ResVar, ptrLoc, go_sem, seval, hd, cb, ruleD, q1, d1, d2, p1, p2, p3, List.length_nil]
    · have q2 : (e != 0) = true := ine_tt he
      have q3 : (e == 0) = false := ieq_ff he
      rcases hp with ⟨rfl, s6⟩ | ⟨he2, rfl⟩
      · refine q11 Try.func8 rfl (by decide +kernel) (by rw [Try.ntmps8]; simp) ?_; rw [Try.ntmps8]; simp only [frOf]
        (repeat (first | refine j0 ?_ | refine j6 rfl ?_ | refine q7 rfl ?_ | refine q6 ?_ | (refine z2 fun K hK => ?_) | (refine x3 (by kernel_rfl) (by kernel_rfl) fun K hK => ?_) | ((first | refine x5 ?_ | refine j5 ?_ | ((first | refine z1 (hK _ ?_) | refine j4 (hK _ _ (x4 (by kernel_rfl)) ?_)); clear hK K)); (first | show AWP _ _ _ _ _ | ((try simp only [j7]); first | show loopQ _ _ _ _ _ _ | show cutQ _ _ _ _ | show AWP _ _ _ _ _))) | ((first | refine x10 rfl rfl rfl ?_ | refine j10 rfl rfl rfl ?_); simp (maxSteps := 2000000) (disch := omega) only [go_sem, seval, hd, cb, ruleD, q1, q2, q3, d1, d2, p1, p3, List.length_nil]; (first | refine ⟨_, k0, ?_⟩ | refine ⟨_, s1, ?_⟩ | refine ⟨_, k1, ?_⟩ | refine ⟨_, k2, ?_⟩ | refine ⟨_, k3, ?_⟩ | refine ⟨_, k4, ?_⟩ | refine ⟨_, s2, ?_⟩ | refine ⟨_, k5, ?_⟩ | refine ⟨_, s6, ?_⟩)) | ((first | refine z7 [] rfl ?_ | refine x7 [] rfl ?_); simp (maxSteps := 2000000) (disch := omega) only [go_sem, seval, hd, cb, ruleD, q1, q2, q3, d1, d2, p1, p3, List.length_nil]; (repeat (first | refine ⟨by omega, ?_⟩ | refine ⟨True.intro, ?_⟩)))))
        refine x8 ⟨_, ?_, rfl⟩; rw [Try.results8]; simp (disch := omega) only [ResVars, ResVar, ptrLoc, go_sem, seval, hd, cb, ruleD, q1, q2, q3, d1, d2, p1, p3, List.length_nil]
      · have p2 : (e2 != 0) = true := ine_tt he2
        refine q11 Try.func8 rfl (by decide +kernel) (by rw [Try.ntmps8]; simp) ?_; rw [Try.ntmps8]; simp only [frOf]
        (repeat (first | refine j0 ?_ | refine j6 rfl ?_ | refine q7 rfl ?_ | refine q6 ?_ | (refine z2 fun K hK => ?_) | (refine x3 (by kernel_rfl) (by kernel_rfl) fun K hK => ?_) | ((first | refine x5 ?_ | refine j5 ?_ | ((first | refine z1 (hK _ ?_) | refine j4 (hK _ _ (x4 (by kernel_rfl)) ?_)); clear hK K)); (first | show AWP _ _ _ _ _ | ((try simp only [j7]); first | show loopQ _ _ _ _ _ _ | show cutQ _ _ _ _ | show AWP _ _ _ _ _))) | ((first | refine x10 rfl rfl rfl ?_ | refine j10 rfl rfl rfl ?_); simp (maxSteps := 2000000) (disch := omega) only [go_sem, seval, hd, cb, ruleD, q1, q2, q3, d1, d2, p1, p2, p3, List.length_nil]; (first | refine ⟨_, k0, ?_⟩ | refine ⟨_, s1, ?_⟩ | refine ⟨_, k1, ?_⟩ | refine ⟨_, k2, ?_⟩ | refine ⟨_, k3, ?_⟩ | refine ⟨_, k4, ?_⟩ | refine ⟨_, s2, ?_⟩ | refine ⟨_, k5, ?_⟩)) | ((first | refine z7 [] rfl ?_ | refine x7 [] rfl ?_); simp (maxSteps := 2000000) (disch := omega) only [go_sem, seval, hd, cb, ruleD, q1, q2, q3, d1, d2, p1, p2, p3, List.length_nil]; (repeat (first | refine ⟨by omega, ?_⟩ | refine ⟨True.intro, ?_⟩)))))
        refine x8 ⟨_, ?_, rfl⟩; rw [Try.results8]; simp (disch := omega) only [ResVars, ResVar, ptrLoc, go_sem, seval, hd, cb, ruleD, q1, q2, q3, d1, d2, p1, p2, p3, List.length_nil]
end Go.Proofs.Ytbiildleaelodaa
