/- The document's package of layer 2, on: what its functions do. Conditions: none. -/
import Derived.Test.YtgfnpkpbebihgaaRef2
set_option linter.unusedSimpArgs false
set_option linter.unusedVariables false
namespace Go.Proofs.Ytgfnpkpbebihgaa
open Go.Proofs.Ytgfnpkpbebihgaa.AL

/-- what both texts say -/
def meetT (a b : Cube) : Cube := ⟨(a.v &&& a.c) ||| (b.v &&& b.c), a.c ||| b.c⟩
theorem apart_iff (a b : Cube) : (apart a b == 0) = true ↔ ∀ i, i < 128 → a.c.getLsbD i = true → b.c.getLsbD i = true → a.v.getLsbD i = b.v.getLsbD i := by
  unfold apart
  rw [beq_iff_eq]
  constructor
  · intro h i hlt ha hb
    have := congrArg (fun z => z.getLsbD i) h
    simp only [BitVec.getLsbD_and, BitVec.getLsbD_xor, ha, hb, Bool.and_self, Bool.and_true, BitVec.getLsbD_zero] at this
    simpa using this
  · intro h
    apply BitVec.eq_of_getLsbD_eq
    intro i hlt
    have := h i hlt
    simp only [BitVec.getLsbD_and, BitVec.getLsbD_xor, BitVec.getLsbD_zero]
    cases ha : a.c.getLsbD i <;> cases hb : b.c.getLsbD i <;> simp
    simpa using this ha hb
theorem meetT_b {a b : Cube} {n : Nat} (h : a.c.getLsbD n = false) : chI (meetT a b) n = chI b n := by
  simp only [chI, meetT, BitVec.getLsbD_or, BitVec.getLsbD_and, h, Bool.and_false, Bool.false_or]
  cases b.c.getLsbD n <;> simp
theorem meetT_a {a b : Cube} {n : Nat} (h : a.c.getLsbD n = true) (h2 : b.c.getLsbD n = true → a.v.getLsbD n = b.v.getLsbD n) : chI (meetT a b) n = chI a n := by
  simp only [chI, meetT, BitVec.getLsbD_or, BitVec.getLsbD_and, h, Bool.and_true, Bool.true_or, if_true]
  cases hb : b.c.getLsbD n
  · simp
  · have := h2 hb
    simp [this]
theorem merge_step (a b : Cube) (c : Int) (i j : Nat) (hi : i < 128) (hj : j < 128) (hc : chI (meetT a b) (127 - i) = c) :
    (if j = i then Dat.v (.int .u8 c) else Dat.v (.int .u8 (if j < i then chI (meetT a b) (127 - j) else chI a (127 - j)))) = Dat.v (.int .u8 (if j < i + 1 then chI (meetT a b) (127 - j) else chI a (127 - j))) := by
  by_cases h : j = i
  · subst h; rw [if_pos rfl, if_pos (by omega), hc]
  · rw [if_neg h]
    by_cases h2 : j < i
    · rw [if_pos h2, if_pos (by omega)]
    · rw [if_neg h2, if_neg (by omega)]
theorem merge_stay (a b : Cube) (i j : Nat) (hi : i < 128) (hj : j < 128) (hc : chI (meetT a b) (127 - i) = chI a (127 - i)) :
    Dat.v (.int .u8 (if j < i then chI (meetT a b) (127 - j) else chI a (127 - j))) = Dat.v (.int .u8 (if j < i + 1 then chI (meetT a b) (127 - j) else chI a (127 - j))) := by
  by_cases h : j = i
  · subst h; rw [if_neg (by omega), if_pos (by omega), hc]
  · by_cases h2 : j < i
    · rw [if_pos h2, if_pos (by omega)]
    · rw [if_neg h2, if_neg (by omega)]
def meetI (a b : Cube) (s : {i : Fin 129 // ∀ j, j < i.val → a.c.getLsbD (127 - j) = true → b.c.getLsbD (127 - j) = true → a.v.getLsbD (127 - j) = b.v.getLsbD (127 - j)}) : ASt :=
  ⟨[(7, .p (.d (.v (.int .i64 (s.val.val : Int))))), (6, .row 9 1 0 128), (1, .p (.d (.v (.string (txt b))))), (0, .p (.d (.v (.string (txt a)))))],
   [(9, .arr 5 128 fun j => .v (.int .u8 (if j < s.val.val then chI (meetT a b) (127 - j) else chI a (127 - j))))]⟩
def withinT (a b : Cube) : Bool := (b.c &&& ~~~a.c == 0) && (apart a b == 0)
theorem withinT_iff (a b : Cube) : withinT a b = true ↔ ∀ i, i < 128 → b.c.getLsbD i = true → a.c.getLsbD i = true ∧ a.v.getLsbD i = b.v.getLsbD i := by
  unfold withinT
  rw [Bool.and_eq_true, apart_iff, beq_iff_eq]
  constructor
  · intro ⟨h, h2⟩ i hlt hb
    have := congrArg (fun z => z.getLsbD i) h
    have e : a.c.getLsbD i = true := by
      simp only [BitVec.getLsbD_and, BitVec.getLsbD_not, hb, hlt, decide_true, Bool.true_and, BitVec.getLsbD_zero] at this
      simpa using this
    exact ⟨e, h2 i hlt e hb⟩
  · intro h
    refine ⟨?_, fun i hlt _ hb => (h i hlt hb).2⟩
    apply BitVec.eq_of_getLsbD_eq
    intro i hlt
    have := h i hlt
    simp only [BitVec.getLsbD_and, BitVec.getLsbD_not, hlt, decide_true, Bool.true_and, BitVec.getLsbD_zero]
    cases hb : b.c.getLsbD i
    · simp
    · rw [(this hb).1]; simp
def withinI (a b : Cube) (s : {i : Fin 129 // ∀ j, j < i.val → b.c.getLsbD (127 - j) = true → a.c.getLsbD (127 - j) = true ∧ a.v.getLsbD (127 - j) = b.v.getLsbD (127 - j)}) : ASt :=
  ⟨[(5, .p (.d (.v (.int .i64 (s.val.val : Int))))), (1, .p (.d (.v (.string (txt b))))), (0, .p (.d (.v (.string (txt a)))))], []⟩
theorem bits_step (f : Nat → Bool) (x : Bool) (i j : Nat) (hi : i < 128) (hj : j < 128) (hx : f (127 - i) = x) :
    (if j = 127 - i then Dat.v (.bool x) else Dat.v (.bool (decide (127 - j < i) && f j))) = Dat.v (.bool (decide (127 - j < i + 1) && f j)) := by
  by_cases h : j = 127 - i
  · rw [if_pos h, ← hx, h, decide_eq_true (show 127 - (127 - i) < i + 1 from by omega)]; rfl
  · rw [if_neg h]
    by_cases h2 : 127 - j < i
    · rw [decide_eq_true h2, decide_eq_true (show 127 - j < i + 1 from by omega)]
    · rw [decide_eq_false h2, decide_eq_false (show ¬ 127 - j < i + 1 from by omega)]
def cubeTI (k : Cube) (i : Fin 129) : ASt :=
  ⟨[(5, .p (.d (.v (.int .i64 (i.val : Int))))), (4, .loc 4 0), (3, .loc 3 0), (2, .loc 2 0), (0, .p (.d (.v (.string (txt k)))))],
   [(4, .arr 86 128 fun j => .v (.bool (decide (127 - j < i.val) && k.c.getLsbD j))), (3, .arr 86 128 fun j => .v (.bool (decide (127 - j < i.val) && (k.c.getLsbD j && k.v.getLsbD j)))),
    (2, .cells 26 [.p (.d (.v (.int .u64 0))), .p (.d (.v (.int .u64 0))), .p (.d (.v (.int .u64 0))), .p (.d (.v (.int .u64 0)))])]⟩
def setTI (x : BitVec 128) (k : Cube) (i : Fin 129) : ASt :=
  ⟨[(8, .p (.d (.v (.int .i64 (i.val : Int))))), (7, .loc 7 0), (6, .loc 6 0), (5, .loc 5 0), (4, .loc 4 0)],
   [(7, .arr 86 128 fun j => .v (.bool (k.c.getLsbD j))), (6, .arr 86 128 fun j => .v (.bool (k.v.getLsbD j))), (5, .arr 86 128 fun j => .v (.bool (if decide (j < i.val) && k.c.getLsbD j then k.v.getLsbD j else x.getLsbD j))),
    (4, .cells 24 [.p (.d (.v (.int .u64 0))), .p (.d (.v (.int .u64 0)))])]⟩
theorem SetT_c (x : BitVec 128) (k : Cube) : ACalls Try.prog 20 [.agg (hd x), .agg (cb k)] (· = [.agg (hd (setH x k))]) := by
  refine acalls_of_awp Try.func20 rfl (by decide +kernel) (by rw [Try.ntmps20]; simp) ?_; rw [Try.ntmps20]; simp only [frOf]
  (repeat (first | refine awp_seq ?_ | refine awp_yes rfl ?_ | refine awp_no rfl ?_ | refine awp_block ?_ | (refine awp_region fun K hK => ?_) | (refine awp_draw (by kernel_rfl) (by kernel_rfl) fun K hK => ?_) | (refine awp_skip ?_; (first | show AWP _ _ _ _ _ | show loopQ _ _ _ _ _ _ | (simp only [blockQ_n]; first | show AWP _ _ _ _ _ | show loopQ _ _ _ _ _ _))) | (refine awp_exit ?_; (first | show AWP _ _ _ _ _ | show loopQ _ _ _ _ _ _ | (simp only [blockQ_n]; first | show AWP _ _ _ _ _ | show loopQ _ _ _ _ _ _))) | ((first | refine walkS_end (hK _ ?_) | refine walkD_end (hK _ _ (okTrace_spec (by kernel_rfl)) ?_)); clear hK K; (first | show AWP _ _ _ _ _ | show loopQ _ _ _ _ _ _ | (simp only [blockQ_n]; first | show AWP _ _ _ _ _ | show loopQ _ _ _ _ _ _))) | ((first | refine walkS_call3 rfl rfl rfl ?_ | refine walkD_call3 rfl rfl rfl ?_); simp (maxSteps := 2000000) (disch := omega) only [go_sem, ↓reduceIte, reduceCtorEq, Nat.reduceLT, Nat.reducePow, Nat.reduceLeDiff, Nat.reduceAdd, Nat.reduceMul, Nat.reduceSub, Nat.reduceEqDiff, Nat.reduceBEq, Int.reduceToNat, Int.reduceBEq, Int.reduceBNe, ty24, ty26, ty86, zr86, ty22, ty3, ty120, ty4, ty5, ty100, ty9, hd, cb]; (first | refine ⟨_, Bits_c x, ?_⟩ | refine ⟨_, Bits_c k.v, ?_⟩ | refine ⟨_, Bits_c k.c, ?_⟩)) | ((first | refine walkS_run1 [] rfl ?_ | refine walkD_run1 [] rfl ?_); simp (maxSteps := 2000000) (disch := omega) only [go_sem, ↓reduceIte, reduceCtorEq, Nat.reduceLT, Nat.reducePow, Nat.reduceLeDiff, Nat.reduceAdd, Nat.reduceMul, Nat.reduceSub, Nat.reduceEqDiff, Nat.reduceBEq, Int.reduceToNat, Int.reduceBEq, Int.reduceBNe, ty24, ty26, ty86, zr86, ty22, ty3, ty120, ty4, ty5, ty100, ty9, hd, cb]; (repeat (first | refine ⟨by omega, ?_⟩ | refine ⟨True.intro, ?_⟩)))))
  refine awp_loop (setTI x k) (fun i => 128 - i.val) ⟨0, by omega⟩ ?_ (fun s => ?_)
  · unfold setTI
    refine Weak.list ?_ ?_; (all_goals simp (disch := omega) only [AllF, AllL, le_self, le_top, lle_self, exists_eq_left', Option.some.injEq, go_sem, ↓reduceIte, reduceCtorEq, Nat.reduceLT, Nat.reducePow, Nat.reduceLeDiff, Nat.reduceAdd, Nat.reduceMul, Nat.reduceSub, Nat.reduceEqDiff, Nat.reduceBEq, Int.reduceToNat, Int.reduceBEq, Int.reduceBNe, ty24, ty26, ty86, zr86, ty22, ty3, ty120, ty4, ty5, ty100, ty9, hd, cb]); (all_goals (repeat' (with_reducible apply And.intro))); (all_goals try (first | exact le_eq rfl | (refine le_int ?_; omega) | (refine le_eq ?_; simp; done)))
    all_goals exact ⟨rfl, rfl, fun i _ => by simp⟩
  obtain ⟨i, hi9⟩ := s
  unfold setTI
  by_cases hn : i < 128
  · cases hac : k.c.getLsbD i
    all_goals
      (repeat (first | refine awp_seq ?_ | refine awp_yes rfl ?_ | refine awp_no rfl ?_ | refine awp_block ?_ | (refine awp_region fun K hK => ?_) | (refine awp_draw (by kernel_rfl) (by kernel_rfl) fun K hK => ?_) | (refine awp_skip ?_; (first | show AWP _ _ _ _ _ | show loopQ _ _ _ _ _ _ | (simp only [blockQ_n]; first | show AWP _ _ _ _ _ | show loopQ _ _ _ _ _ _))) | (refine awp_exit ?_; (first | show AWP _ _ _ _ _ | show loopQ _ _ _ _ _ _ | (simp only [blockQ_n]; first | show AWP _ _ _ _ _ | show loopQ _ _ _ _ _ _))) | ((first | refine walkS_end (hK _ ?_) | refine walkD_end (hK _ _ (okTrace_spec (by kernel_rfl)) ?_)); clear hK K; (first | show AWP _ _ _ _ _ | show loopQ _ _ _ _ _ _ | (simp only [blockQ_n]; first | show AWP _ _ _ _ _ | show loopQ _ _ _ _ _ _))) | ((first | refine walkS_run1 [] rfl ?_ | refine walkD_run1 [] rfl ?_); simp (maxSteps := 2000000) (disch := omega) only [go_sem, ↓reduceIte, reduceCtorEq, Nat.reduceLT, Nat.reducePow, Nat.reduceLeDiff, Nat.reduceAdd, Nat.reduceMul, Nat.reduceSub, Nat.reduceEqDiff, Nat.reduceBEq, Int.reduceToNat, Int.reduceBEq, Int.reduceBNe, ty24, ty26, ty86, zr86, ty22, ty3, ty120, ty4, ty5, ty100, ty9, hd, cb, hac]; (repeat (first | refine ⟨by omega, ?_⟩ | refine ⟨True.intro, ?_⟩)))))
      refine ⟨⟨i + 1, by omega⟩, by simp only []; omega, ?_⟩
      refine Weak.list ?_ ?_; (all_goals simp (disch := omega) only [AllF, AllL, le_self, le_top, lle_self, exists_eq_left', Option.some.injEq, go_sem, ↓reduceIte, reduceCtorEq, Nat.reduceLT, Nat.reducePow, Nat.reduceLeDiff, Nat.reduceAdd, Nat.reduceMul, Nat.reduceSub, Nat.reduceEqDiff, Nat.reduceBEq, Int.reduceToNat, Int.reduceBEq, Int.reduceBNe, ty24, ty26, ty86, zr86, ty22, ty3, ty120, ty4, ty5, ty100, ty9, hd, cb, hac]); (all_goals (repeat' (with_reducible apply And.intro))); (all_goals try (first | exact le_eq rfl | (refine le_int ?_; omega) | (refine le_eq ?_; simp; done)))
      refine ⟨rfl, rfl, fun j hj => ?_⟩
      by_cases e : j = i
      · subst e; simp [hac]
      · first | rw [if_neg e] | skip
        by_cases h : j < i
        · simp [e, h, show j < i + 1 from by omega]
        · simp [e, h, show ¬ j < i + 1 from by omega]
  · have h128 : i = 128 := by omega
    subst h128
    have hd1 := Head_c (fun j => if decide (j < 128) && k.c.getLsbD j then k.v.getLsbD j else x.getLsbD j)
    rw [ofBits_eq _ (setH x k) (fun i hi => by
      unfold setH
      rw [decide_eq_true hi, Bool.true_and, BitVec.getLsbD_or, BitVec.getLsbD_and, BitVec.getLsbD_and, BitVec.getLsbD_not, decide_eq_true hi]
      cases k.c.getLsbD i <;> simp)] at hd1
    (repeat (first | refine awp_seq ?_ | refine awp_yes rfl ?_ | refine awp_no rfl ?_ | refine awp_block ?_ | (refine awp_region fun K hK => ?_) | (refine awp_draw (by kernel_rfl) (by kernel_rfl) fun K hK => ?_) | (refine awp_skip ?_; (first | show AWP _ _ _ _ _ | show loopQ _ _ _ _ _ _ | (simp only [blockQ_n]; first | show AWP _ _ _ _ _ | show loopQ _ _ _ _ _ _))) | (refine awp_exit ?_; (first | show AWP _ _ _ _ _ | show loopQ _ _ _ _ _ _ | (simp only [blockQ_n]; first | show AWP _ _ _ _ _ | show loopQ _ _ _ _ _ _))) | ((first | refine walkS_end (hK _ ?_) | refine walkD_end (hK _ _ (okTrace_spec (by kernel_rfl)) ?_)); clear hK K; (first | show AWP _ _ _ _ _ | show loopQ _ _ _ _ _ _ | (simp only [blockQ_n]; first | show AWP _ _ _ _ _ | show loopQ _ _ _ _ _ _))) | ((first | refine walkS_call3 rfl rfl rfl ?_ | refine walkD_call3 rfl rfl rfl ?_); simp (maxSteps := 2000000) (disch := omega) only [go_sem, ↓reduceIte, reduceCtorEq, Nat.reduceLT, Nat.reducePow, Nat.reduceLeDiff, Nat.reduceAdd, Nat.reduceMul, Nat.reduceSub, Nat.reduceEqDiff, Nat.reduceBEq, Int.reduceToNat, Int.reduceBEq, Int.reduceBNe, ty24, ty26, ty86, zr86, ty22, ty3, ty120, ty4, ty5, ty100, ty9, hd, cb]; (first | refine ⟨_, hd1, ?_⟩)) | ((first | refine walkS_run1 [] rfl ?_ | refine walkD_run1 [] rfl ?_); simp (maxSteps := 2000000) (disch := omega) only [go_sem, ↓reduceIte, reduceCtorEq, Nat.reduceLT, Nat.reducePow, Nat.reduceLeDiff, Nat.reduceAdd, Nat.reduceMul, Nat.reduceSub, Nat.reduceEqDiff, Nat.reduceBEq, Int.reduceToNat, Int.reduceBEq, Int.reduceBNe, ty24, ty26, ty86, zr86, ty22, ty3, ty120, ty4, ty5, ty100, ty9, hd, cb]; (repeat (first | refine ⟨by omega, ?_⟩ | refine ⟨True.intro, ?_⟩)))))
    refine awp_ret ⟨_, ?_, rfl⟩; rw [Try.results20]; simp (disch := omega) only [ResVars, ResVar, ptrLoc, go_sem, ↓reduceIte, reduceCtorEq, Nat.reduceLT, Nat.reducePow, Nat.reduceLeDiff, Nat.reduceAdd, Nat.reduceMul, Nat.reduceSub, Nat.reduceEqDiff, Nat.reduceBEq, Int.reduceToNat, Int.reduceBEq, Int.reduceBNe, ty24, ty26, ty86, zr86, ty22, ty3, ty120, ty4, ty5, ty100, ty9, hd, cb]

end Go.Proofs.Ytgfnpkpbebihgaa
