/- When a number fits into a field. Conditions: none. -/
import Derived.Test.YtgfnpkpbebihgaaGen
set_option linter.unusedSimpArgs false
set_option linter.unusedVariables false
namespace Go.Proofs.Ytgfnpkpbebihgaa
open Go.Proofs.Ytgfnpkpbebihgaa.AL
theorem ones_bit (n j : Nat) (hj : j < 128) : (ones n).getLsbD j = decide (j < n) := by
  unfold ones
  rw [BitVec.getLsbD_ofNat, Nat.testBit_two_pow_sub_one]
  simp [hj]
theorem bvi_ne (x : BitVec 64) : (bvi x != 0) = (x != 0) := by
  have := bvi_inj (a := x) (b := 0)
  rw [show bvi 0 = 0 from by decide] at this
  show (!(bvi x == 0)) = !(x == 0)
  rw [this]
theorem over_shift (b : Nat) (v : BitVec 64) (hb : b ≤ 64) : over b v = (decide (b < 64) && (bvi v / 2 ^ min b 64 != 0)) := by
  unfold over
  rw [shr_bvi]
  have e : lo (ones b) = bvi ((ones b).extractLsb' 0 64) := rfl
  rw [e, bits_andNot, bvi_ne, bvi_ne]
  have k1 : (v &&& ~~~((ones b).extractLsb' 0 64)) = 0 ↔ ∀ i, i < 64 → v.getLsbD i = true → i < b := by
    constructor
    · intro h i hi hv
      have := congrArg (fun z => z.getLsbD i) h
      simp only [BitVec.getLsbD_and, BitVec.getLsbD_not, BitVec.getLsbD_extractLsb', Nat.zero_add, ones_bit b i (by omega), hi, hv, decide_true, Bool.true_and] at this
      simpa using this
    · intro h
      apply BitVec.eq_of_getLsbD_eq
      intro i hi
      simp only [BitVec.getLsbD_and, BitVec.getLsbD_not, BitVec.getLsbD_extractLsb', Nat.zero_add, ones_bit b i (by omega), hi, decide_true, Bool.true_and]
      cases hv : v.getLsbD i
      · simp
      · simp [h i hi hv]
  have k2 : v >>> b = 0 ↔ ∀ i, i < 64 → v.getLsbD i = true → i < b := by
    constructor
    · intro h i hi hv
      refine Nat.lt_of_not_le fun hle => ?_
      have := congrArg (fun z => z.getLsbD (i - b)) h
      simp only [BitVec.getLsbD_ushiftRight, show b + (i - b) = i from by omega, hv] at this
      simp at this
    · intro h
      apply BitVec.eq_of_getLsbD_eq
      intro i hi
      rw [BitVec.getLsbD_ushiftRight]
      cases hv : v.getLsbD (b + i)
      · simp
      · have h1 : b + i < 64 := by
          refine Nat.lt_of_not_le fun hle => ?_
          rw [BitVec.getLsbD_of_ge v (b + i) hle] at hv; cases hv
        have := h (b + i) h1 hv; omega
  by_cases h64 : b < 64
  · rw [decide_eq_true h64, Bool.true_and]
    have : ((v &&& ~~~((ones b).extractLsb' 0 64)) = 0) = (v >>> b = 0) := propext (k1.trans k2.symm)
    rw [Bool.eq_iff_iff, bne_iff_ne, bne_iff_ne, ne_eq, ne_eq, this]
  · rw [decide_eq_false h64, Bool.false_and]
    have : (v &&& ~~~((ones b).extractLsb' 0 64)) = 0 := k1.2 fun i hi _ => by omega
    rw [this]; rfl
end Go.Proofs.Ytgfnpkpbebihgaa
