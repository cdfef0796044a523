/- The law of layer 2 on fields: the call returns true. Conditions: none, but that numbers are of their kind. -/
import Derived.Test.YtfcfhlfehomhpaaMeets
set_option linter.unusedSimpArgs false
set_option linter.unusedVariables false
namespace Go.Proofs.Ytfcfhlfehomhpaa
open Go.Proofs.Ytfcfhlfehomhpaa.AL
theorem ones_bit (n j : Nat) (hj : j < 128) : (ones n).getLsbD j = decide (j < n) := by
  unfold ones
  rw [BitVec.getLsbD_ofNat, Nat.testBit_two_pow_sub_one]
  simp [hj]
theorem bvi_ne (x : BitVec 64) : (bvi x != 0) = (x != 0) := by
  have := bvi_inj (a := x) (b := 0)
  rw [show bvi 0 = 0 from by decide] at this
  show (!(bvi x == 0)) = !(x == 0)
  rw [this]
theorem over_shift (b : Nat) (v : BitVec 64) (hb : b ≤ 64) : over b v = (decide (b < 64) && (bvi v / 2 ^ min b 64 != 0)) := by
  unfold over
  rw [shr_bvi]
  have e : lo (ones b) = bvi ((ones b).extractLsb' 0 64) := rfl
  rw [e, bits_andNot, bvi_ne, bvi_ne]
  have k1 : (v &&& ~~~((ones b).extractLsb' 0 64)) = 0 ↔ ∀ i, i < 64 → v.getLsbD i = true → i < b := by
    constructor
    · intro h i hi hv
      have := congrArg (fun z => z.getLsbD i) h
      simp only [BitVec.getLsbD_and, BitVec.getLsbD_not, BitVec.getLsbD_extractLsb', Nat.zero_add, ones_bit b i (by omega), hi, hv, decide_true, Bool.true_and] at this
      simpa using this
    · intro h
      apply BitVec.eq_of_getLsbD_eq
      intro i hi
      simp only [BitVec.getLsbD_and, BitVec.getLsbD_not, BitVec.getLsbD_extractLsb', Nat.zero_add, ones_bit b i (by omega), hi, decide_true, Bool.true_and]
      cases hv : v.getLsbD i
      · simp
      · simp [h i hi hv]
  have k2 : v >>> b = 0 ↔ ∀ i, i < 64 → v.getLsbD i = true → i < b := by
    constructor
    · intro h i hi hv
      refine Nat.lt_of_not_le fun hle => ?_
      have := congrArg (fun z => z.getLsbD (i - b)) h
      simp only [BitVec.getLsbD_ushiftRight, show b + (i - b) = i from by omega, hv] at this
      simp at this
    · intro h
      apply BitVec.eq_of_getLsbD_eq
      intro i hi
      rw [BitVec.getLsbD_ushiftRight]
      cases hv : v.getLsbD (b + i)
      · simp
      · have h1 : b + i < 64 := by
          refine Nat.lt_of_not_le fun hle => ?_
          rw [BitVec.getLsbD_of_ge v (b + i) hle] at hv; cases hv
        have := h (b + i) h1 hv; omega
  by_cases h64 : b < 64
  · rw [decide_eq_true h64, Bool.true_and]
    have : ((v &&& ~~~((ones b).extractLsb' 0 64)) = 0) = (v >>> b = 0) := propext (k1.trans k2.symm)
    rw [Bool.eq_iff_iff, bne_iff_ne, bne_iff_ne, ne_eq, ne_eq, this]
  · rw [decide_eq_false h64, Bool.false_and]
    have : (v &&& ~~~((ones b).extractLsb' 0 64)) = 0 := k1.2 fun i hi _ => by omega
    rw [this]; rfl
theorem fieldV_bits (A S N : Nat) (v : BitVec 64) (hN : N ≤ S) (hA : A + S ≤ 128) : mkC (putB 0 A S v) (ones N <<< (A + S - N)) =
    ⟨ofBits (fun j => decide (A + (S - N) ≤ j ∧ j < A + (S - N) + N) && v.getLsbD (j - A)), ofBits (fun j => decide (A + (S - N) ≤ j ∧ j < A + (S - N) + N))⟩ := by
  have hcb : ∀ j, j < 128 → (ones N <<< (A + S - N)).getLsbD j = decide (A + (S - N) ≤ j ∧ j < A + (S - N) + N) := by
    intro j hj
    rw [BitVec.getLsbD_shiftLeft, decide_eq_true hj, Bool.true_and]
    by_cases h9 : j < A + S - N
    · rw [decide_eq_true h9, decide_eq_false (show ¬ (A + (S - N) ≤ j ∧ j < A + (S - N) + N) by omega)]; rfl
    · rw [decide_eq_false h9, ones_bit N _ (by omega)]
      simp only [Bool.not_false, Bool.true_and]
      exact decide_eq_decide.2 (by omega)
  unfold mkC
  rw [ofBits_eq (fun j => decide (A + (S - N) ≤ j ∧ j < A + (S - N) + N)) _ (fun j hj => (hcb j hj).symm)]
  rw [ofBits_eq (fun j => decide (A + (S - N) ≤ j ∧ j < A + (S - N) + N) && v.getLsbD (j - A)) (putB 0 A S v &&& ones N <<< (A + S - N)) (fun j hj => ?_)]
  rw [BitVec.getLsbD_and, hcb j hj, Bool.and_comm]
  by_cases h : A + (S - N) ≤ j ∧ j < A + (S - N) + N
  · rw [decide_eq_true h, Bool.and_true, Bool.and_true]
    unfold putB
    rw [BitVec.getLsbD_or, BitVec.getLsbD_and, BitVec.getLsbD_shiftLeft, show (0 : BitVec 128).getLsbD j = false from by simp, Bool.false_and, Bool.false_or, decide_eq_true hj, decide_eq_false (show ¬ j < A by omega), BitVec.getLsbD_setWidth, decide_eq_true (show j - A < 128 by omega)]
    simp
  · rw [decide_eq_false h, Bool.and_false, Bool.and_false]
theorem field_fine (A S N : Nat) (v : BitVec 64) (hf : fieldB A S 64 = true) (h5 : over S v = false) (h7 : N ≤ S) : fieldE A S v N = 0 ∧
    fieldV A S v N = ⟨ofBits (fun j => decide (A + (S - N) ≤ j ∧ j < A + (S - N) + N) && v.getLsbD (j - A)), ofBits (fun j => decide (A + (S - N) ≤ j ∧ j < A + (S - N) + N))⟩ := by
  have hb := of_decide_eq_true hf
  have hE : fieldE A S v N = 0 := by
    unfold fieldE putE
    rw [hf, Int.toNat_natCast, h5]
    simp; omega
  refine ⟨hE, ?_⟩
  unfold fieldV
  rw [hE, if_pos rfl, Int.toNat_natCast, Int.toNat_natCast, Int.toNat_natCast, show ((A : Int) + (S : Int) - (N : Int)).toNat = A + S - N from by omega]
  exact fieldV_bits A S N v h7 (by omega)
theorem field_bad (A S : Nat) (len : Int) (v : BitVec 64) (hf : fieldB A S 64 = true) (hbad : over S v = true ∨ len < 0 ∨ len > S) : fieldE A S v len = 4 ∧ fieldV A S v len = ⟨0, 0⟩ := by
  have hE : fieldE A S v len = 4 := by
    unfold fieldE putE
    rw [hf, Int.toNat_natCast]
    cases h5 : over S v
    · rw [h5] at hbad
      simp at hbad
      simp [hbad]
    · simp
  exact ⟨hE, by unfold fieldV; rw [hE]; rfl⟩
def fieldsI (at_ size len : Int) (v : BitVec 64) (x y : BitVec 128) (i : Fin 129) : ASt :=
  ⟨[(15, .p (.d (.v (.int .i64 (i.val : Int))))), (14, .loc 14 0), (13, .loc 13 0), (11, .p (.d (.bx (hd y)))), (10, .p (.d (.bx (hd x)))), (3, .p (.d (.v (.int .i64 len)))), (2, .p (.d (.v (.int .u64 (bvi v))))), (1, .p (.d (.v (.int .i64 size)))), (0, .p (.d (.v (.int .i64 at_))))],
   [(14, .arr 43 128 fun j => .v (.bool (y.getLsbD j))), (13, .arr 43 128 fun j => .v (.bool (x.getLsbD j && (decide (i.val ≤ j) || y.getLsbD j))))]⟩
def fieldsJ (A S N : Nat) (v : BitVec 64) (K : Cube) (k : Fin (N + 1)) : ASt :=
  ⟨[(20, .p (.d (.v (.int .i64 ((S - N + k.val : Nat) : Int))))), (19, .loc 19 0), (18, .loc 18 0), (17, .p (.d (.v (.int .i64 0)))), (16, .loc 16 0), (2, .p (.d (.v (.int .u64 (bvi v))))), (1, .p (.d (.v (.int .i64 (S : Int))))), (0, .p (.d (.v (.int .i64 (A : Int)))))],
   [(19, .arr 43 128 fun j => .v (.bool (decide (A + (S - N) ≤ j ∧ j < A + (S - N) + k.val) && v.getLsbD (j - A)))), (18, .arr 43 128 fun j => .v (.bool (decide (A + (S - N) ≤ j ∧ j < A + (S - N) + k.val)))),
    (16, .cells 26 [.p (.d (.v (.int .u64 (hi K.v)))), .p (.d (.v (.int .u64 (lo K.v)))), .p (.d (.v (.int .u64 (hi K.c)))), .p (.d (.v (.int .u64 (lo K.c))))])]⟩
theorem tn_add (a b : Nat) : ((a : Int) + (b : Int)).toNat = a + b := by omega
set_option maxRecDepth 100000 in
set_option maxHeartbeats 4000000 in
theorem CubeFields_c (at_ size : Int) (v : BitVec 64) (len : Int) (x y : BitVec 128) (h1 : -9223372036854775808 ≤ at_ ∧ at_ < 9223372036854775808) (h2 : -9223372036854775808 ≤ size ∧ size < 9223372036854775808) (h4 : -9223372036854775808 ≤ len ∧ len < 9223372036854775808) :
    ACalls Try.prog 6 [.d (.v (.int .i64 at_)), .d (.v (.int .i64 size)), .d (.v (.int .u64 (bvi v))), .d (.v (.int .i64 len)), .agg (hd x), .agg (hd y)] (· = [.d (.v (.bool true))]) := by
  refine acalls_of_awp Try.func6 rfl (by decide +kernel) (by rw [Try.ntmps6]; simp) ?_; rw [Try.ntmps6]; simp only [frOf]
  (repeat (first | refine awp_seq ?_ | refine awp_yes rfl ?_ | refine awp_no rfl ?_ | refine awp_block ?_ | (refine awp_region fun K hK => ?_) | (refine awp_draw (by kernel_rfl) (by kernel_rfl) fun K hK => ?_) | (refine awp_skip ?_; (first | show AWP _ _ _ _ _ | show loopQ _ _ _ _ _ _)) | (refine awp_exit ?_; (first | show AWP _ _ _ _ _ | show loopQ _ _ _ _ _ _)) | ((first | refine walkS_end (hK _ ?_) | refine walkD_end (hK _ _ (okTrace_spec (by kernel_rfl)) ?_)); clear hK K; (first | show AWP _ _ _ _ _ | show loopQ _ _ _ _ _ _)) | ((first | refine walkS_call3 rfl rfl rfl ?_ | refine walkD_call3 rfl rfl rfl ?_); simp (maxSteps := 2000000) (disch := omega) only [go_sem, ↓reduceIte, reduceCtorEq, Nat.reduceLT, Nat.reducePow, Nat.reduceLeDiff, Nat.reduceAdd, Nat.reduceMul, Nat.reduceSub, Nat.reduceEqDiff, Nat.reduceBEq, Int.reduceToNat, Int.reduceBEq, Int.reduceBNe, ty24, ty26, ty43, zr43, ty22, ty3, ty52, ty48, ty4, un4, ty9, hd, cb, eqty24, eqty26, hi_zero, lo_zero, eqI_self, bne_self_eq_false]; (first | refine ⟨_, Bits_c x, ?_⟩ | refine ⟨_, Bits_c y, ?_⟩)) | ((first | refine walkS_run1 [] rfl ?_ | refine walkD_run1 [] rfl ?_); simp (maxSteps := 2000000) (disch := omega) only [go_sem, ↓reduceIte, reduceCtorEq, Nat.reduceLT, Nat.reducePow, Nat.reduceLeDiff, Nat.reduceAdd, Nat.reduceMul, Nat.reduceSub, Nat.reduceEqDiff, Nat.reduceBEq, Int.reduceToNat, Int.reduceBEq, Int.reduceBNe, ty24, ty26, ty43, zr43, ty22, ty3, ty52, ty48, ty4, un4, ty9, hd, cb, eqty24, eqty26, hi_zero, lo_zero, eqI_self, bne_self_eq_false]; (repeat (first | refine ⟨by omega, ?_⟩ | refine ⟨True.intro, ?_⟩)))))
  refine awp_loop (fieldsI at_ size len v x y) (fun i => 128 - i.val) ⟨0, by omega⟩ ?_ (fun s => ?_)
  · unfold fieldsI
    refine Weak.list ?_ ?_; (all_goals simp (disch := omega) only [AllF, AllL, le_self, le_top, lle_self, exists_eq_left', Option.some.injEq, go_sem, ↓reduceIte, reduceCtorEq, Nat.reduceLT, Nat.reducePow, Nat.reduceLeDiff, Nat.reduceAdd, Nat.reduceMul, Nat.reduceSub, Nat.reduceEqDiff, Nat.reduceBEq, Int.reduceToNat, Int.reduceBEq, Int.reduceBNe, ty24, ty26, ty43, zr43, ty22, ty3, ty52, ty48, ty4, un4, ty9, hd, cb, eqty24, eqty26, hi_zero, lo_zero, eqI_self, bne_self_eq_false]); (all_goals (repeat' (with_reducible apply And.intro))); (all_goals try (first | exact le_eq rfl | (refine le_int ?_; omega) | (refine le_eq ?_; simp; done)))
    all_goals exact lle_arr fun j hj => by simp
  obtain ⟨i, hi9⟩ := s
  unfold fieldsI
  by_cases hn : i < 128
  · cases hx : x.getLsbD i
    all_goals
      (repeat (first | refine awp_seq ?_ | refine awp_yes rfl ?_ | refine awp_no rfl ?_ | refine awp_block ?_ | (refine awp_region fun K hK => ?_) | (refine awp_draw (by kernel_rfl) (by kernel_rfl) fun K hK => ?_) | (refine awp_skip ?_; (first | show AWP _ _ _ _ _ | show loopQ _ _ _ _ _ _)) | (refine awp_exit ?_; (first | show AWP _ _ _ _ _ | show loopQ _ _ _ _ _ _)) | ((first | refine walkS_end (hK _ ?_) | refine walkD_end (hK _ _ (okTrace_spec (by kernel_rfl)) ?_)); clear hK K; (first | show AWP _ _ _ _ _ | show loopQ _ _ _ _ _ _)) | ((first | refine walkS_run1 [] rfl ?_ | refine walkD_run1 [] rfl ?_); simp (maxSteps := 2000000) (disch := omega) only [go_sem, ↓reduceIte, reduceCtorEq, Nat.reduceLT, Nat.reducePow, Nat.reduceLeDiff, Nat.reduceAdd, Nat.reduceMul, Nat.reduceSub, Nat.reduceEqDiff, Nat.reduceBEq, Int.reduceToNat, Int.reduceBEq, Int.reduceBNe, ty24, ty26, ty43, zr43, ty22, ty3, ty52, ty48, ty4, un4, ty9, hd, cb, eqty24, eqty26, hi_zero, lo_zero, eqI_self, bne_self_eq_false, hx]; (repeat (first | refine ⟨by omega, ?_⟩ | refine ⟨True.intro, ?_⟩)))))
      refine ⟨⟨i + 1, by omega⟩, by simp only []; omega, ?_⟩
      refine Weak.list ?_ ?_; (all_goals simp (disch := omega) only [AllF, AllL, le_self, le_top, lle_self, exists_eq_left', Option.some.injEq, go_sem, ↓reduceIte, reduceCtorEq, Nat.reduceLT, Nat.reducePow, Nat.reduceLeDiff, Nat.reduceAdd, Nat.reduceMul, Nat.reduceSub, Nat.reduceEqDiff, Nat.reduceBEq, Int.reduceToNat, Int.reduceBEq, Int.reduceBNe, ty24, ty26, ty43, zr43, ty22, ty3, ty52, ty48, ty4, un4, ty9, hd, cb, eqty24, eqty26, hi_zero, lo_zero, eqI_self, bne_self_eq_false, hx]); (all_goals (repeat' (with_reducible apply And.intro))); (all_goals try (first | exact le_eq rfl | (refine le_int ?_; omega) | (refine le_eq ?_; simp; done)))
      refine lle_arr fun j hj => ?_
      by_cases e : j = i
      · subst e; simp [hx, show ¬ j + 1 ≤ j from by omega]
      · have : decide (i ≤ j) = decide (i + 1 ≤ j) := decide_eq_decide.2 (by omega)
        simp [e, this]
  have h128 : i = 128 := by omega
  subst h128
  have mk := Make_c x y
  have hd1 := Head_c (fun j => x.getLsbD j && (decide (128 ≤ j) || y.getLsbD j))
  rw [ofBits_eq _ (x &&& y) (fun i hi => by rw [BitVec.getLsbD_and, decide_eq_false (show ¬ 128 ≤ i by omega), Bool.false_or])] at hd1
  have fc := Field_c at_ size v len h2
  have fr := FieldR_c at_ size 64 h2 (by omega)
  have hmk : mkC x y = ⟨x &&& y, y⟩ := rfl
  rw [hmk] at mk
  generalize x &&& y = z at mk hd1
  cases hf : fieldB at_ size 64
  · have hE : fieldE at_ size v len = 1 := by simp [fieldE, putE, hf]
    have hV : fieldV at_ size v len = ⟨0, 0⟩ := by unfold fieldV; rw [hE]; rfl
    rw [hE, hV] at fc
    rw [hf] at fr
    (repeat (first | refine awp_seq ?_ | refine awp_yes rfl ?_ | refine awp_no rfl ?_ | refine awp_block ?_ | (refine awp_region fun K hK => ?_) | (refine awp_draw (by kernel_rfl) (by kernel_rfl) fun K hK => ?_) | (refine awp_skip ?_; (first | show AWP _ _ _ _ _ | show loopQ _ _ _ _ _ _)) | (refine awp_exit ?_; (first | show AWP _ _ _ _ _ | show loopQ _ _ _ _ _ _)) | ((first | refine walkS_end (hK _ ?_) | refine walkD_end (hK _ _ (okTrace_spec (by kernel_rfl)) ?_)); clear hK K; (first | show AWP _ _ _ _ _ | show loopQ _ _ _ _ _ _)) | ((first | refine walkS_call3 rfl rfl rfl ?_ | refine walkD_call3 rfl rfl rfl ?_); simp (maxSteps := 2000000) (disch := omega) only [go_sem, ↓reduceIte, reduceCtorEq, Nat.reduceLT, Nat.reducePow, Nat.reduceLeDiff, Nat.reduceAdd, Nat.reduceMul, Nat.reduceSub, Nat.reduceEqDiff, Nat.reduceBEq, Int.reduceToNat, Int.reduceBEq, Int.reduceBNe, ty24, ty26, ty43, zr43, ty22, ty3, ty52, ty48, ty4, un4, ty9, hd, cb, eqty24, eqty26, hi_zero, lo_zero, eqI_self, bne_self_eq_false]; (first | refine ⟨_, mk, ?_⟩ | refine ⟨_, hd1, ?_⟩ | refine ⟨_, All_c, ?_⟩ | refine ⟨_, fc, ?_⟩ | refine ⟨_, fr, ?_⟩ | refine ⟨_, awake2_c, ?_⟩)) | ((first | refine walkS_run1 [] rfl ?_ | refine walkD_run1 [] rfl ?_); simp (maxSteps := 2000000) (disch := omega) only [go_sem, ↓reduceIte, reduceCtorEq, Nat.reduceLT, Nat.reducePow, Nat.reduceLeDiff, Nat.reduceAdd, Nat.reduceMul, Nat.reduceSub, Nat.reduceEqDiff, Nat.reduceBEq, Int.reduceToNat, Int.reduceBEq, Int.reduceBNe, ty24, ty26, ty43, zr43, ty22, ty3, ty52, ty48, ty4, un4, ty9, hd, cb, eqty24, eqty26, hi_zero, lo_zero, eqI_self, bne_self_eq_false]; (repeat (first | refine ⟨by omega, ?_⟩ | refine ⟨True.intro, ?_⟩)))))
    refine awp_ret ⟨_, ?_, rfl⟩; rw [Try.results6]; simp (disch := omega) only [ResVars, ResVar, ptrLoc, go_sem, ↓reduceIte, reduceCtorEq, Nat.reduceLT, Nat.reducePow, Nat.reduceLeDiff, Nat.reduceAdd, Nat.reduceMul, Nat.reduceSub, Nat.reduceEqDiff, Nat.reduceBEq, Int.reduceToNat, Int.reduceBEq, Int.reduceBNe, ty24, ty26, ty43, zr43, ty22, ty3, ty52, ty48, ty4, un4, ty9, hd, cb, eqty24, eqty26, hi_zero, lo_zero, eqI_self, bne_self_eq_false]
  have hb := of_decide_eq_true hf
  rw [hf] at fr
  obtain ⟨A, rfl⟩ := Int.eq_ofNat_of_zero_le hb.1
  obtain ⟨S, rfl⟩ := Int.eq_ofNat_of_zero_le hb.2.1
  have hov := over_shift S v (by omega)
  by_cases hbad : over S v = true ∨ len < 0 ∨ len > S
  · obtain ⟨hE, hV⟩ := field_bad A S len v hf hbad
    rw [hE, hV] at fc
    cases h5 : over S v
    · rw [h5] at hbad hov
      have hbad : len < 0 ∨ (¬ len < 0 ∧ len > S) := by simp at hbad; omega
      by_cases h6 : S < 64
      · rw [decide_eq_true h6, Bool.true_and] at hov
        have hov := hov.symm
        rcases hbad with h7 | h7
        all_goals
          (repeat (first | refine awp_seq ?_ | refine awp_yes rfl ?_ | refine awp_no rfl ?_ | refine awp_block ?_ | (refine awp_region fun K hK => ?_) | (refine awp_draw (by kernel_rfl) (by kernel_rfl) fun K hK => ?_) | (refine awp_skip ?_; (first | show AWP _ _ _ _ _ | show loopQ _ _ _ _ _ _)) | (refine awp_exit ?_; (first | show AWP _ _ _ _ _ | show loopQ _ _ _ _ _ _)) | ((first | refine walkS_end (hK _ ?_) | refine walkD_end (hK _ _ (okTrace_spec (by kernel_rfl)) ?_)); clear hK K; (first | show AWP _ _ _ _ _ | show loopQ _ _ _ _ _ _)) | ((first | refine walkS_call3 rfl rfl rfl ?_ | refine walkD_call3 rfl rfl rfl ?_); simp (maxSteps := 2000000) (disch := omega) only [go_sem, ↓reduceIte, reduceCtorEq, Nat.reduceLT, Nat.reducePow, Nat.reduceLeDiff, Nat.reduceAdd, Nat.reduceMul, Nat.reduceSub, Nat.reduceEqDiff, Nat.reduceBEq, Int.reduceToNat, Int.reduceBEq, Int.reduceBNe, ty24, ty26, ty43, zr43, ty22, ty3, ty52, ty48, ty4, un4, ty9, hd, cb, eqty24, eqty26, hi_zero, lo_zero, eqI_self, bne_self_eq_false, hov]; (first | refine ⟨_, mk, ?_⟩ | refine ⟨_, hd1, ?_⟩ | refine ⟨_, All_c, ?_⟩ | refine ⟨_, fc, ?_⟩ | refine ⟨_, fr, ?_⟩ | refine ⟨_, awake2_c, ?_⟩)) | ((first | refine walkS_run1 [] rfl ?_ | refine walkD_run1 [] rfl ?_); simp (maxSteps := 2000000) (disch := omega) only [go_sem, ↓reduceIte, reduceCtorEq, Nat.reduceLT, Nat.reducePow, Nat.reduceLeDiff, Nat.reduceAdd, Nat.reduceMul, Nat.reduceSub, Nat.reduceEqDiff, Nat.reduceBEq, Int.reduceToNat, Int.reduceBEq, Int.reduceBNe, ty24, ty26, ty43, zr43, ty22, ty3, ty52, ty48, ty4, un4, ty9, hd, cb, eqty24, eqty26, hi_zero, lo_zero, eqI_self, bne_self_eq_false, hov]; (repeat (first | refine ⟨by omega, ?_⟩ | refine ⟨True.intro, ?_⟩)))))
          refine awp_ret ⟨_, ?_, rfl⟩; rw [Try.results6]; simp (disch := omega) only [ResVars, ResVar, ptrLoc, go_sem, ↓reduceIte, reduceCtorEq, Nat.reduceLT, Nat.reducePow, Nat.reduceLeDiff, Nat.reduceAdd, Nat.reduceMul, Nat.reduceSub, Nat.reduceEqDiff, Nat.reduceBEq, Int.reduceToNat, Int.reduceBEq, Int.reduceBNe, ty24, ty26, ty43, zr43, ty22, ty3, ty52, ty48, ty4, un4, ty9, hd, cb, eqty24, eqty26, hi_zero, lo_zero, eqI_self, bne_self_eq_false, hov]
      · rcases hbad with h7 | h7
        all_goals
          (repeat (first | refine awp_seq ?_ | refine awp_yes rfl ?_ | refine awp_no rfl ?_ | refine awp_block ?_ | (refine awp_region fun K hK => ?_) | (refine awp_draw (by kernel_rfl) (by kernel_rfl) fun K hK => ?_) | (refine awp_skip ?_; (first | show AWP _ _ _ _ _ | show loopQ _ _ _ _ _ _)) | (refine awp_exit ?_; (first | show AWP _ _ _ _ _ | show loopQ _ _ _ _ _ _)) | ((first | refine walkS_end (hK _ ?_) | refine walkD_end (hK _ _ (okTrace_spec (by kernel_rfl)) ?_)); clear hK K; (first | show AWP _ _ _ _ _ | show loopQ _ _ _ _ _ _)) | ((first | refine walkS_call3 rfl rfl rfl ?_ | refine walkD_call3 rfl rfl rfl ?_); simp (maxSteps := 2000000) (disch := omega) only [go_sem, ↓reduceIte, reduceCtorEq, Nat.reduceLT, Nat.reducePow, Nat.reduceLeDiff, Nat.reduceAdd, Nat.reduceMul, Nat.reduceSub, Nat.reduceEqDiff, Nat.reduceBEq, Int.reduceToNat, Int.reduceBEq, Int.reduceBNe, ty24, ty26, ty43, zr43, ty22, ty3, ty52, ty48, ty4, un4, ty9, hd, cb, eqty24, eqty26, hi_zero, lo_zero, eqI_self, bne_self_eq_false]; (first | refine ⟨_, mk, ?_⟩ | refine ⟨_, hd1, ?_⟩ | refine ⟨_, All_c, ?_⟩ | refine ⟨_, fc, ?_⟩ | refine ⟨_, fr, ?_⟩ | refine ⟨_, awake2_c, ?_⟩)) | ((first | refine walkS_run1 [] rfl ?_ | refine walkD_run1 [] rfl ?_); simp (maxSteps := 2000000) (disch := omega) only [go_sem, ↓reduceIte, reduceCtorEq, Nat.reduceLT, Nat.reducePow, Nat.reduceLeDiff, Nat.reduceAdd, Nat.reduceMul, Nat.reduceSub, Nat.reduceEqDiff, Nat.reduceBEq, Int.reduceToNat, Int.reduceBEq, Int.reduceBNe, ty24, ty26, ty43, zr43, ty22, ty3, ty52, ty48, ty4, un4, ty9, hd, cb, eqty24, eqty26, hi_zero, lo_zero, eqI_self, bne_self_eq_false]; (repeat (first | refine ⟨by omega, ?_⟩ | refine ⟨True.intro, ?_⟩)))))
          refine awp_ret ⟨_, ?_, rfl⟩; rw [Try.results6]; simp (disch := omega) only [ResVars, ResVar, ptrLoc, go_sem, ↓reduceIte, reduceCtorEq, Nat.reduceLT, Nat.reducePow, Nat.reduceLeDiff, Nat.reduceAdd, Nat.reduceMul, Nat.reduceSub, Nat.reduceEqDiff, Nat.reduceBEq, Int.reduceToNat, Int.reduceBEq, Int.reduceBNe, ty24, ty26, ty43, zr43, ty22, ty3, ty52, ty48, ty4, un4, ty9, hd, cb, eqty24, eqty26, hi_zero, lo_zero, eqI_self, bne_self_eq_false]
    · rw [h5] at hov
      have hov := hov.symm
      simp only [Bool.and_eq_true, decide_eq_true_eq] at hov
      obtain ⟨h6, hov⟩ := hov
      (repeat (first | refine awp_seq ?_ | refine awp_yes rfl ?_ | refine awp_no rfl ?_ | refine awp_block ?_ | (refine awp_region fun K hK => ?_) | (refine awp_draw (by kernel_rfl) (by kernel_rfl) fun K hK => ?_) | (refine awp_skip ?_; (first | show AWP _ _ _ _ _ | show loopQ _ _ _ _ _ _)) | (refine awp_exit ?_; (first | show AWP _ _ _ _ _ | show loopQ _ _ _ _ _ _)) | ((first | refine walkS_end (hK _ ?_) | refine walkD_end (hK _ _ (okTrace_spec (by kernel_rfl)) ?_)); clear hK K; (first | show AWP _ _ _ _ _ | show loopQ _ _ _ _ _ _)) | ((first | refine walkS_call3 rfl rfl rfl ?_ | refine walkD_call3 rfl rfl rfl ?_); simp (maxSteps := 2000000) (disch := omega) only [go_sem, ↓reduceIte, reduceCtorEq, Nat.reduceLT, Nat.reducePow, Nat.reduceLeDiff, Nat.reduceAdd, Nat.reduceMul, Nat.reduceSub, Nat.reduceEqDiff, Nat.reduceBEq, Int.reduceToNat, Int.reduceBEq, Int.reduceBNe, ty24, ty26, ty43, zr43, ty22, ty3, ty52, ty48, ty4, un4, ty9, hd, cb, eqty24, eqty26, hi_zero, lo_zero, eqI_self, bne_self_eq_false, hov]; (first | refine ⟨_, mk, ?_⟩ | refine ⟨_, hd1, ?_⟩ | refine ⟨_, All_c, ?_⟩ | refine ⟨_, fc, ?_⟩ | refine ⟨_, fr, ?_⟩ | refine ⟨_, awake2_c, ?_⟩)) | ((first | refine walkS_run1 [] rfl ?_ | refine walkD_run1 [] rfl ?_); simp (maxSteps := 2000000) (disch := omega) only [go_sem, ↓reduceIte, reduceCtorEq, Nat.reduceLT, Nat.reducePow, Nat.reduceLeDiff, Nat.reduceAdd, Nat.reduceMul, Nat.reduceSub, Nat.reduceEqDiff, Nat.reduceBEq, Int.reduceToNat, Int.reduceBEq, Int.reduceBNe, ty24, ty26, ty43, zr43, ty22, ty3, ty52, ty48, ty4, un4, ty9, hd, cb, eqty24, eqty26, hi_zero, lo_zero, eqI_self, bne_self_eq_false, hov]; (repeat (first | refine ⟨by omega, ?_⟩ | refine ⟨True.intro, ?_⟩)))))
      refine awp_ret ⟨_, ?_, rfl⟩; rw [Try.results6]; simp (disch := omega) only [ResVars, ResVar, ptrLoc, go_sem, ↓reduceIte, reduceCtorEq, Nat.reduceLT, Nat.reducePow, Nat.reduceLeDiff, Nat.reduceAdd, Nat.reduceMul, Nat.reduceSub, Nat.reduceEqDiff, Nat.reduceBEq, Int.reduceToNat, Int.reduceBEq, Int.reduceBNe, ty24, ty26, ty43, zr43, ty22, ty3, ty52, ty48, ty4, un4, ty9, hd, cb, eqty24, eqty26, hi_zero, lo_zero, eqI_self, bne_self_eq_false, hov]
  · have h5 : over S v = false := by cases h5 : over S v <;> simp_all
    have h6 : 0 ≤ len := by omega
    obtain ⟨N, rfl⟩ := Int.eq_ofNat_of_zero_le h6
    have h7 : N ≤ S := by omega
    obtain ⟨hE, hV⟩ := field_fine A S N v hf h5 h7
    rw [hE, hV] at fc
    have hd2 := Head_c (fun j => decide (A + (S - N) ≤ j ∧ j < A + (S - N) + N) && v.getLsbD (j - A))
    have hd3 := Head_c (fun j => decide (A + (S - N) ≤ j ∧ j < A + (S - N) + N))
    generalize ofBits (fun j => decide (A + (S - N) ≤ j ∧ j < A + (S - N) + N) && v.getLsbD (j - A)) = kv at fc hd2
    generalize ofBits (fun j => decide (A + (S - N) ≤ j ∧ j < A + (S - N) + N)) = kc at fc hd3
    rw [h5] at hov
    have hov := hov.symm
    by_cases h8 : S < 64
    · rw [decide_eq_true h8, Bool.true_and] at hov
      (repeat (first | refine awp_seq ?_ | refine awp_yes rfl ?_ | refine awp_no rfl ?_ | refine awp_block ?_ | (refine awp_region fun K hK => ?_) | (refine awp_draw (by kernel_rfl) (by kernel_rfl) fun K hK => ?_) | (refine awp_skip ?_; (first | show AWP _ _ _ _ _ | show loopQ _ _ _ _ _ _)) | (refine awp_exit ?_; (first | show AWP _ _ _ _ _ | show loopQ _ _ _ _ _ _)) | ((first | refine walkS_end (hK _ ?_) | refine walkD_end (hK _ _ (okTrace_spec (by kernel_rfl)) ?_)); clear hK K; (first | show AWP _ _ _ _ _ | show loopQ _ _ _ _ _ _)) | ((first | refine walkS_call3 rfl rfl rfl ?_ | refine walkD_call3 rfl rfl rfl ?_); simp (maxSteps := 2000000) (disch := omega) only [go_sem, ↓reduceIte, reduceCtorEq, Nat.reduceLT, Nat.reducePow, Nat.reduceLeDiff, Nat.reduceAdd, Nat.reduceMul, Nat.reduceSub, Nat.reduceEqDiff, Nat.reduceBEq, Int.reduceToNat, Int.reduceBEq, Int.reduceBNe, ty24, ty26, ty43, zr43, ty22, ty3, ty52, ty48, ty4, un4, ty9, hd, cb, eqty24, eqty26, hi_zero, lo_zero, eqI_self, bne_self_eq_false, hov]; (first | refine ⟨_, mk, ?_⟩ | refine ⟨_, hd1, ?_⟩ | refine ⟨_, All_c, ?_⟩ | refine ⟨_, fc, ?_⟩ | refine ⟨_, fr, ?_⟩)) | ((first | refine walkS_run1 [] rfl ?_ | refine walkD_run1 [] rfl ?_); simp (maxSteps := 2000000) (disch := omega) only [go_sem, ↓reduceIte, reduceCtorEq, Nat.reduceLT, Nat.reducePow, Nat.reduceLeDiff, Nat.reduceAdd, Nat.reduceMul, Nat.reduceSub, Nat.reduceEqDiff, Nat.reduceBEq, Int.reduceToNat, Int.reduceBEq, Int.reduceBNe, ty24, ty26, ty43, zr43, ty22, ty3, ty52, ty48, ty4, un4, ty9, hd, cb, eqty24, eqty26, hi_zero, lo_zero, eqI_self, bne_self_eq_false, hov]; (repeat (first | refine ⟨by omega, ?_⟩ | refine ⟨True.intro, ?_⟩)))))
      refine awp_loop (fieldsJ A S N v ⟨kv, kc⟩) (fun k => N - k.val) ⟨0, by omega⟩ ?_ (fun s => ?_)
      · unfold fieldsJ
        refine Weak.list ?_ ?_; (all_goals simp (disch := omega) only [AllF, AllL, le_self, le_top, lle_self, exists_eq_left', Option.some.injEq, go_sem, ↓reduceIte, reduceCtorEq, Nat.reduceLT, Nat.reducePow, Nat.reduceLeDiff, Nat.reduceAdd, Nat.reduceMul, Nat.reduceSub, Nat.reduceEqDiff, Nat.reduceBEq, Int.reduceToNat, Int.reduceBEq, Int.reduceBNe, ty24, ty26, ty43, zr43, ty22, ty3, ty52, ty48, ty4, un4, ty9, hd, cb, eqty24, eqty26, hi_zero, lo_zero, eqI_self, bne_self_eq_false, hov]); (all_goals (repeat' (with_reducible apply And.intro))); (all_goals try (first | exact le_eq rfl | (refine le_int ?_; omega) | (refine le_eq ?_; simp; done)))
        all_goals exact lle_arr fun j hj => by simp <;> omega
      obtain ⟨k, hk⟩ := s
      unfold fieldsJ
      by_cases hn2 : k < N
      · have rb := rem_bvi v (S - N + k) (by omega)
        (repeat (first | refine awp_seq ?_ | refine awp_yes rfl ?_ | refine awp_no rfl ?_ | refine awp_block ?_ | (refine awp_region fun K hK => ?_) | (refine awp_draw (by kernel_rfl) (by kernel_rfl) fun K hK => ?_) | (refine awp_skip ?_; (first | show AWP _ _ _ _ _ | show loopQ _ _ _ _ _ _)) | (refine awp_exit ?_; (first | show AWP _ _ _ _ _ | show loopQ _ _ _ _ _ _)) | ((first | refine walkS_end (hK _ ?_) | refine walkD_end (hK _ _ (okTrace_spec (by kernel_rfl)) ?_)); clear hK K; (first | show AWP _ _ _ _ _ | show loopQ _ _ _ _ _ _)) | ((first | refine walkS_run1 [] rfl ?_ | refine walkD_run1 [] rfl ?_); simp (maxSteps := 2000000) (disch := omega) only [go_sem, ↓reduceIte, reduceCtorEq, Nat.reduceLT, Nat.reducePow, Nat.reduceLeDiff, Nat.reduceAdd, Nat.reduceMul, Nat.reduceSub, Nat.reduceEqDiff, Nat.reduceBEq, Int.reduceToNat, Int.reduceBEq, Int.reduceBNe, ty24, ty26, ty43, zr43, ty22, ty3, ty52, ty48, ty4, un4, ty9, hd, cb, eqty24, eqty26, hi_zero, lo_zero, eqI_self, bne_self_eq_false, rb, tn_add]; (repeat (first | refine ⟨by omega, ?_⟩ | refine ⟨True.intro, ?_⟩)))))
        refine ⟨⟨k + 1, by omega⟩, by simp only []; omega, ?_⟩
        refine Weak.list ?_ ?_; (all_goals simp (disch := omega) only [AllF, AllL, le_self, le_top, lle_self, exists_eq_left', Option.some.injEq, go_sem, ↓reduceIte, reduceCtorEq, Nat.reduceLT, Nat.reducePow, Nat.reduceLeDiff, Nat.reduceAdd, Nat.reduceMul, Nat.reduceSub, Nat.reduceEqDiff, Nat.reduceBEq, Int.reduceToNat, Int.reduceBEq, Int.reduceBNe, ty24, ty26, ty43, zr43, ty22, ty3, ty52, ty48, ty4, un4, ty9, hd, cb, eqty24, eqty26, hi_zero, lo_zero, eqI_self, bne_self_eq_false, rb, tn_add]); (all_goals (repeat' (with_reducible apply And.intro))); (all_goals try (first | exact le_eq rfl | (refine le_int ?_; omega) | (refine le_eq ?_; simp; done)))
        all_goals
          refine lle_arr fun j hj => ?_
          by_cases e : j = A + (S - N + k)
          · subst e
            simp [show A + (S - N) ≤ A + (S - N + k) from by omega, show A + (S - N + k) < A + (S - N) + (k + 1) from by omega]
          · have e2 : decide (A + (S - N) ≤ j ∧ j < A + (S - N) + k) = decide (A + (S - N) ≤ j ∧ j < A + (S - N) + (k + 1)) := decide_eq_decide.2 (by omega)
            simp only [e, if_false, e2]
      · have hkN : k = N := by omega
        subst hkN
        (repeat (first | refine awp_seq ?_ | refine awp_yes rfl ?_ | refine awp_no rfl ?_ | refine awp_block ?_ | (refine awp_region fun K hK => ?_) | (refine awp_draw (by kernel_rfl) (by kernel_rfl) fun K hK => ?_) | (refine awp_skip ?_; (first | show AWP _ _ _ _ _ | show loopQ _ _ _ _ _ _)) | (refine awp_exit ?_; (first | show AWP _ _ _ _ _ | show loopQ _ _ _ _ _ _)) | ((first | refine walkS_end (hK _ ?_) | refine walkD_end (hK _ _ (okTrace_spec (by kernel_rfl)) ?_)); clear hK K; (first | show AWP _ _ _ _ _ | show loopQ _ _ _ _ _ _)) | ((first | refine walkS_call3 rfl rfl rfl ?_ | refine walkD_call3 rfl rfl rfl ?_); simp (maxSteps := 2000000) (disch := omega) only [go_sem, ↓reduceIte, reduceCtorEq, Nat.reduceLT, Nat.reducePow, Nat.reduceLeDiff, Nat.reduceAdd, Nat.reduceMul, Nat.reduceSub, Nat.reduceEqDiff, Nat.reduceBEq, Int.reduceToNat, Int.reduceBEq, Int.reduceBNe, ty24, ty26, ty43, zr43, ty22, ty3, ty52, ty48, ty4, un4, ty9, hd, cb, eqty24, eqty26, hi_zero, lo_zero, eqI_self, bne_self_eq_false]; (first | refine ⟨_, hd2, ?_⟩ | refine ⟨_, hd3, ?_⟩ | refine ⟨_, awake2_c, ?_⟩)) | ((first | refine walkS_run1 [] rfl ?_ | refine walkD_run1 [] rfl ?_); simp (maxSteps := 2000000) (disch := omega) only [go_sem, ↓reduceIte, reduceCtorEq, Nat.reduceLT, Nat.reducePow, Nat.reduceLeDiff, Nat.reduceAdd, Nat.reduceMul, Nat.reduceSub, Nat.reduceEqDiff, Nat.reduceBEq, Int.reduceToNat, Int.reduceBEq, Int.reduceBNe, ty24, ty26, ty43, zr43, ty22, ty3, ty52, ty48, ty4, un4, ty9, hd, cb, eqty24, eqty26, hi_zero, lo_zero, eqI_self, bne_self_eq_false]; (repeat (first | refine ⟨by omega, ?_⟩ | refine ⟨True.intro, ?_⟩)))))
        refine awp_ret ⟨_, ?_, rfl⟩; rw [Try.results6]; simp (disch := omega) only [ResVars, ResVar, ptrLoc, go_sem, ↓reduceIte, reduceCtorEq, Nat.reduceLT, Nat.reducePow, Nat.reduceLeDiff, Nat.reduceAdd, Nat.reduceMul, Nat.reduceSub, Nat.reduceEqDiff, Nat.reduceBEq, Int.reduceToNat, Int.reduceBEq, Int.reduceBNe, ty24, ty26, ty43, zr43, ty22, ty3, ty52, ty48, ty4, un4, ty9, hd, cb, eqty24, eqty26, hi_zero, lo_zero, eqI_self, bne_self_eq_false]
    · clear hov
      (repeat (first | refine awp_seq ?_ | refine awp_yes rfl ?_ | refine awp_no rfl ?_ | refine awp_block ?_ | (refine awp_region fun K hK => ?_) | (refine awp_draw (by kernel_rfl) (by kernel_rfl) fun K hK => ?_) | (refine awp_skip ?_; (first | show AWP _ _ _ _ _ | show loopQ _ _ _ _ _ _)) | (refine awp_exit ?_; (first | show AWP _ _ _ _ _ | show loopQ _ _ _ _ _ _)) | ((first | refine walkS_end (hK _ ?_) | refine walkD_end (hK _ _ (okTrace_spec (by kernel_rfl)) ?_)); clear hK K; (first | show AWP _ _ _ _ _ | show loopQ _ _ _ _ _ _)) | ((first | refine walkS_call3 rfl rfl rfl ?_ | refine walkD_call3 rfl rfl rfl ?_); simp (maxSteps := 2000000) (disch := omega) only [go_sem, ↓reduceIte, reduceCtorEq, Nat.reduceLT, Nat.reducePow, Nat.reduceLeDiff, Nat.reduceAdd, Nat.reduceMul, Nat.reduceSub, Nat.reduceEqDiff, Nat.reduceBEq, Int.reduceToNat, Int.reduceBEq, Int.reduceBNe, ty24, ty26, ty43, zr43, ty22, ty3, ty52, ty48, ty4, un4, ty9, hd, cb, eqty24, eqty26, hi_zero, lo_zero, eqI_self, bne_self_eq_false]; (first | refine ⟨_, mk, ?_⟩ | refine ⟨_, hd1, ?_⟩ | refine ⟨_, All_c, ?_⟩ | refine ⟨_, fc, ?_⟩ | refine ⟨_, fr, ?_⟩)) | ((first | refine walkS_run1 [] rfl ?_ | refine walkD_run1 [] rfl ?_); simp (maxSteps := 2000000) (disch := omega) only [go_sem, ↓reduceIte, reduceCtorEq, Nat.reduceLT, Nat.reducePow, Nat.reduceLeDiff, Nat.reduceAdd, Nat.reduceMul, Nat.reduceSub, Nat.reduceEqDiff, Nat.reduceBEq, Int.reduceToNat, Int.reduceBEq, Int.reduceBNe, ty24, ty26, ty43, zr43, ty22, ty3, ty52, ty48, ty4, un4, ty9, hd, cb, eqty24, eqty26, hi_zero, lo_zero, eqI_self, bne_self_eq_false]; (repeat (first | refine ⟨by omega, ?_⟩ | refine ⟨True.intro, ?_⟩)))))
      refine awp_loop (fieldsJ A S N v ⟨kv, kc⟩) (fun k => N - k.val) ⟨0, by omega⟩ ?_ (fun s => ?_)
      · unfold fieldsJ
        refine Weak.list ?_ ?_; (all_goals simp (disch := omega) only [AllF, AllL, le_self, le_top, lle_self, exists_eq_left', Option.some.injEq, go_sem, ↓reduceIte, reduceCtorEq, Nat.reduceLT, Nat.reducePow, Nat.reduceLeDiff, Nat.reduceAdd, Nat.reduceMul, Nat.reduceSub, Nat.reduceEqDiff, Nat.reduceBEq, Int.reduceToNat, Int.reduceBEq, Int.reduceBNe, ty24, ty26, ty43, zr43, ty22, ty3, ty52, ty48, ty4, un4, ty9, hd, cb, eqty24, eqty26, hi_zero, lo_zero, eqI_self, bne_self_eq_false]); (all_goals (repeat' (with_reducible apply And.intro))); (all_goals try (first | exact le_eq rfl | (refine le_int ?_; omega) | (refine le_eq ?_; simp; done)))
        all_goals exact lle_arr fun j hj => by simp <;> omega
      obtain ⟨k, hk⟩ := s
      unfold fieldsJ
      by_cases hn2 : k < N
      · have rb := rem_bvi v (S - N + k) (by omega)
        (repeat (first | refine awp_seq ?_ | refine awp_yes rfl ?_ | refine awp_no rfl ?_ | refine awp_block ?_ | (refine awp_region fun K hK => ?_) | (refine awp_draw (by kernel_rfl) (by kernel_rfl) fun K hK => ?_) | (refine awp_skip ?_; (first | show AWP _ _ _ _ _ | show loopQ _ _ _ _ _ _)) | (refine awp_exit ?_; (first | show AWP _ _ _ _ _ | show loopQ _ _ _ _ _ _)) | ((first | refine walkS_end (hK _ ?_) | refine walkD_end (hK _ _ (okTrace_spec (by kernel_rfl)) ?_)); clear hK K; (first | show AWP _ _ _ _ _ | show loopQ _ _ _ _ _ _)) | ((first | refine walkS_run1 [] rfl ?_ | refine walkD_run1 [] rfl ?_); simp (maxSteps := 2000000) (disch := omega) only [go_sem, ↓reduceIte, reduceCtorEq, Nat.reduceLT, Nat.reducePow, Nat.reduceLeDiff, Nat.reduceAdd, Nat.reduceMul, Nat.reduceSub, Nat.reduceEqDiff, Nat.reduceBEq, Int.reduceToNat, Int.reduceBEq, Int.reduceBNe, ty24, ty26, ty43, zr43, ty22, ty3, ty52, ty48, ty4, un4, ty9, hd, cb, eqty24, eqty26, hi_zero, lo_zero, eqI_self, bne_self_eq_false, rb, tn_add]; (repeat (first | refine ⟨by omega, ?_⟩ | refine ⟨True.intro, ?_⟩)))))
        refine ⟨⟨k + 1, by omega⟩, by simp only []; omega, ?_⟩
        refine Weak.list ?_ ?_; (all_goals simp (disch := omega) only [AllF, AllL, le_self, le_top, lle_self, exists_eq_left', Option.some.injEq, go_sem, ↓reduceIte, reduceCtorEq, Nat.reduceLT, Nat.reducePow, Nat.reduceLeDiff, Nat.reduceAdd, Nat.reduceMul, Nat.reduceSub, Nat.reduceEqDiff, Nat.reduceBEq, Int.reduceToNat, Int.reduceBEq, Int.reduceBNe, ty24, ty26, ty43, zr43, ty22, ty3, ty52, ty48, ty4, un4, ty9, hd, cb, eqty24, eqty26, hi_zero, lo_zero, eqI_self, bne_self_eq_false, rb, tn_add]); (all_goals (repeat' (with_reducible apply And.intro))); (all_goals try (first | exact le_eq rfl | (refine le_int ?_; omega) | (refine le_eq ?_; simp; done)))
        all_goals
          refine lle_arr fun j hj => ?_
          by_cases e : j = A + (S - N + k)
          · subst e
            simp [show A + (S - N) ≤ A + (S - N + k) from by omega, show A + (S - N + k) < A + (S - N) + (k + 1) from by omega]
          · have e2 : decide (A + (S - N) ≤ j ∧ j < A + (S - N) + k) = decide (A + (S - N) ≤ j ∧ j < A + (S - N) + (k + 1)) := decide_eq_decide.2 (by omega)
            simp only [e, if_false, e2]
      · have hkN : k = N := by omega
        subst hkN
        (repeat (first | refine awp_seq ?_ | refine awp_yes rfl ?_ | refine awp_no rfl ?_ | refine awp_block ?_ | (refine awp_region fun K hK => ?_) | (refine awp_draw (by kernel_rfl) (by kernel_rfl) fun K hK => ?_) | (refine awp_skip ?_; (first | show AWP _ _ _ _ _ | show loopQ _ _ _ _ _ _)) | (refine awp_exit ?_; (first | show AWP _ _ _ _ _ | show loopQ _ _ _ _ _ _)) | ((first | refine walkS_end (hK _ ?_) | refine walkD_end (hK _ _ (okTrace_spec (by kernel_rfl)) ?_)); clear hK K; (first | show AWP _ _ _ _ _ | show loopQ _ _ _ _ _ _)) | ((first | refine walkS_call3 rfl rfl rfl ?_ | refine walkD_call3 rfl rfl rfl ?_); simp (maxSteps := 2000000) (disch := omega) only [go_sem, ↓reduceIte, reduceCtorEq, Nat.reduceLT, Nat.reducePow, Nat.reduceLeDiff, Nat.reduceAdd, Nat.reduceMul, Nat.reduceSub, Nat.reduceEqDiff, Nat.reduceBEq, Int.reduceToNat, Int.reduceBEq, Int.reduceBNe, ty24, ty26, ty43, zr43, ty22, ty3, ty52, ty48, ty4, un4, ty9, hd, cb, eqty24, eqty26, hi_zero, lo_zero, eqI_self, bne_self_eq_false]; (first | refine ⟨_, hd2, ?_⟩ | refine ⟨_, hd3, ?_⟩ | refine ⟨_, awake2_c, ?_⟩)) | ((first | refine walkS_run1 [] rfl ?_ | refine walkD_run1 [] rfl ?_); simp (maxSteps := 2000000) (disch := omega) only [go_sem, ↓reduceIte, reduceCtorEq, Nat.reduceLT, Nat.reducePow, Nat.reduceLeDiff, Nat.reduceAdd, Nat.reduceMul, Nat.reduceSub, Nat.reduceEqDiff, Nat.reduceBEq, Int.reduceToNat, Int.reduceBEq, Int.reduceBNe, ty24, ty26, ty43, zr43, ty22, ty3, ty52, ty48, ty4, un4, ty9, hd, cb, eqty24, eqty26, hi_zero, lo_zero, eqI_self, bne_self_eq_false]; (repeat (first | refine ⟨by omega, ?_⟩ | refine ⟨True.intro, ?_⟩)))))
        refine awp_ret ⟨_, ?_, rfl⟩; rw [Try.results6]; simp (disch := omega) only [ResVars, ResVar, ptrLoc, go_sem, ↓reduceIte, reduceCtorEq, Nat.reduceLT, Nat.reducePow, Nat.reduceLeDiff, Nat.reduceAdd, Nat.reduceMul, Nat.reduceSub, Nat.reduceEqDiff, Nat.reduceBEq, Int.reduceToNat, Int.reduceBEq, Int.reduceBNe, ty24, ty26, ty43, zr43, ty22, ty3, ty52, ty48, ty4, un4, ty9, hd, cb, eqty24, eqty26, hi_zero, lo_zero, eqI_self, bne_self_eq_false]
end Go.Proofs.Ytfcfhlfehomhpaa
