/- Headers as words of 128 bits; cubes; how they read as data. Conditions: none. No program in sight. -/
import Derived.Test.YtokibghllpfeaaaAl
set_option linter.unusedSimpArgs false
set_option linter.unusedVariables false
namespace Go.Proofs.Ytokibghllpfeaaa
open Go.Proofs.Ytokibghllpfeaaa.AL

def bvi (a : BitVec 64) : Int := (a.toNat : Int)
def hi (x : BitVec 128) : Int := bvi (x.extractLsb' 64 64)
def lo (x : BitVec 128) : Int := bvi (x.extractLsb' 0 64)
def hd (x : BitVec 128) : List Dat := [.v (.int .u64 (hi x)), .v (.int .u64 (lo x))]

theorem bvi_nonneg (a : BitVec 64) : 0 ≤ bvi a := by unfold bvi; omega
theorem bvi_lt (a : BitVec 64) : bvi a < 18446744073709551616 := by
  unfold bvi; have := a.isLt; omega
theorem ofInt_bvi (a : BitVec 64) : BitVec.ofInt 64 (bvi a) = a := by
  unfold bvi
  rw [BitVec.ofInt_natCast]
  simp
theorem wrap_bvi (a : BitVec 64) : IntKind.u64.wrap (a.toNat : Int) = bvi a := by
  have := a.isLt
  simp [IntKind.wrap, IntKind.bits, IntKind.signed, bvi]
  omega
theorem wrap_bvi' (a : BitVec 64) : IntKind.u64.wrap (bvi a) = bvi a := wrap_bvi a
theorem bits_and (a b : BitVec 64) : bits .and .u64 (bvi a) (bvi b) = bvi (a &&& b) := by
  unfold bits
  show IntKind.u64.wrap ((BitVec.ofInt 64 (bvi a) &&& BitVec.ofInt 64 (bvi b)).toNat : Int) = _
  rw [ofInt_bvi, ofInt_bvi, wrap_bvi]
theorem bits_or (a b : BitVec 64) : bits .or .u64 (bvi a) (bvi b) = bvi (a ||| b) := by
  unfold bits
  show IntKind.u64.wrap ((BitVec.ofInt 64 (bvi a) ||| BitVec.ofInt 64 (bvi b)).toNat : Int) = _
  rw [ofInt_bvi, ofInt_bvi, wrap_bvi]
theorem bits_xor (a b : BitVec 64) : bits .xor .u64 (bvi a) (bvi b) = bvi (a ^^^ b) := by
  unfold bits
  show IntKind.u64.wrap ((BitVec.ofInt 64 (bvi a) ^^^ BitVec.ofInt 64 (bvi b)).toNat : Int) = _
  rw [ofInt_bvi, ofInt_bvi, wrap_bvi]
theorem bits_andNot (a b : BitVec 64) : bits .andNot .u64 (bvi a) (bvi b) = bvi (a &&& ~~~b) := by
  unfold bits
  show IntKind.u64.wrap ((BitVec.ofInt 64 (bvi a) &&& ~~~(BitVec.ofInt 64 (bvi b))).toNat : Int) = _
  rw [ofInt_bvi, ofInt_bvi, wrap_bvi]
theorem shr_bvi (a : BitVec 64) (n : Nat) : bvi a / 2 ^ min n 64 = bvi (a >>> n) := by
  unfold bvi
  rw [BitVec.toNat_ushiftRight, Nat.shiftRight_eq_div_pow]
  have e : ((a.toNat : Int) / 2 ^ min n 64) = ((a.toNat / 2 ^ min n 64 : Nat) : Int) := by simp
  rw [e]
  congr 1
  by_cases h : n ≤ 64
  · rw [Nat.min_eq_left h]
  · rw [Nat.min_eq_right (by omega)]
    have h1 := a.isLt
    have h2 : (2 : Nat) ^ 64 ≤ 2 ^ n := Nat.pow_le_pow_right (by omega) (by omega)
    rw [Nat.div_eq_of_lt h1, Nat.div_eq_of_lt (by omega)]
theorem shl_bvi (a : BitVec 64) (n : Nat) : IntKind.u64.wrap (bvi a * 2 ^ min n 64) = bvi (a <<< n) := by
  unfold bvi
  rw [BitVec.toNat_shiftLeft, Nat.shiftLeft_eq]
  have e : ((a.toNat : Int) * 2 ^ min n 64) = ((a.toNat * 2 ^ min n 64 : Nat) : Int) := by simp
  rw [e]
  have w : ∀ k : Nat, IntKind.u64.wrap (k : Int) = ((k % 2 ^ 64 : Nat) : Int) := by
    intro k; simp [IntKind.wrap, IntKind.bits, IntKind.signed]
  rw [w]
  congr 1
  by_cases h : n ≤ 64
  · rw [Nat.min_eq_left h]
  · rw [Nat.min_eq_right (by omega)]
    have e1 : n = 64 + (n - 64) := by omega
    rw [e1, Nat.pow_add, ← Nat.mul_assoc]
    simp [Nat.mul_mod]
theorem bvi_inj {a b : BitVec 64} : (bvi a == bvi b) = (a == b) := by
  unfold bvi
  rw [Bool.eq_iff_iff]
  simp [BitVec.toNat_eq]
  omega

/-- two words -/
theorem hi_eq {x : BitVec 128} {a : BitVec 64} (h : ∀ i, i < 64 → a.getLsbD i = x.getLsbD (64 + i)) : hi x = bvi a := by
  unfold hi
  congr 1
  apply BitVec.eq_of_getLsbD_eq
  intro i hi'
  rw [BitVec.getLsbD_extractLsb', h i hi']
  simp [hi']
theorem lo_eq {x : BitVec 128} {a : BitVec 64} (h : ∀ i, i < 64 → a.getLsbD i = x.getLsbD i) : lo x = bvi a := by
  unfold lo
  congr 1
  apply BitVec.eq_of_getLsbD_eq
  intro i hi'
  rw [BitVec.getLsbD_extractLsb', h i hi']
  simp [hi']
theorem hi_and (x y : BitVec 128) : bits .and .u64 (hi x) (hi y) = hi (x &&& y) := by
  unfold hi; rw [bits_and]; symm; exact hi_eq (fun i h => by simp [BitVec.getLsbD_extractLsb', h])
theorem lo_and (x y : BitVec 128) : bits .and .u64 (lo x) (lo y) = lo (x &&& y) := by
  unfold lo; rw [bits_and]; symm; exact lo_eq (fun i h => by simp [BitVec.getLsbD_extractLsb', h])
theorem hi_or (x y : BitVec 128) : bits .or .u64 (hi x) (hi y) = hi (x ||| y) := by
  unfold hi; rw [bits_or]; symm; exact hi_eq (fun i h => by simp [BitVec.getLsbD_extractLsb', h])
theorem lo_or (x y : BitVec 128) : bits .or .u64 (lo x) (lo y) = lo (x ||| y) := by
  unfold lo; rw [bits_or]; symm; exact lo_eq (fun i h => by simp [BitVec.getLsbD_extractLsb', h])
theorem hi_xor (x y : BitVec 128) : bits .xor .u64 (hi x) (hi y) = hi (x ^^^ y) := by
  unfold hi; rw [bits_xor]; symm; exact hi_eq (fun i h => by simp [BitVec.getLsbD_extractLsb', h])
theorem lo_xor (x y : BitVec 128) : bits .xor .u64 (lo x) (lo y) = lo (x ^^^ y) := by
  unfold lo; rw [bits_xor]; symm; exact lo_eq (fun i h => by simp [BitVec.getLsbD_extractLsb', h])
theorem hi_less (x y : BitVec 128) : bits .andNot .u64 (hi x) (hi y) = hi (x &&& ~~~y) := by
  unfold hi; rw [bits_andNot]; symm; exact hi_eq (fun i h => by simp [BitVec.getLsbD_extractLsb', h, (by omega : 64 + i < 128)])
theorem lo_less (x y : BitVec 128) : bits .andNot .u64 (lo x) (lo y) = lo (x &&& ~~~y) := by
  unfold lo; rw [bits_andNot]; symm; exact lo_eq (fun i h => by simp [BitVec.getLsbD_extractLsb', h, (by omega : i < 128)])
theorem hi_lo_eq (x y : BitVec 128) : ((hi x == hi y) && (lo x == lo y)) = (x == y) := by
  unfold hi lo
  rw [bvi_inj, bvi_inj, Bool.eq_iff_iff]
  simp only [Bool.and_eq_true, beq_iff_eq]
  constructor
  · rintro ⟨h1, h2⟩
    apply BitVec.eq_of_getLsbD_eq
    intro i hi'
    by_cases hlt : i < 64
    · have := congrArg (fun v => v.getLsbD i) h2
      simpa [BitVec.getLsbD_extractLsb', hlt] using this
    · have := congrArg (fun v => v.getLsbD (i - 64)) h1
      have hk : i - 64 < 64 := by omega
      have e : 64 + (i - 64) = i := by omega
      simpa [BitVec.getLsbD_extractLsb', hk, e] using this
  · rintro rfl; exact ⟨rfl, rfl⟩
theorem hi_zero : hi 0 = 0 := by decide
theorem lo_zero : lo 0 = 0 := by decide
/-- every two words are a header's -/
theorem exists_head {a b : Int} (ha : 0 ≤ a) (ha' : a < 18446744073709551616) (hb : 0 ≤ b) (hb' : b < 18446744073709551616) : ∃ x, hi x = a ∧ lo x = b := by
  refine ⟨BitVec.ofNat 64 a.toNat ++ BitVec.ofNat 64 b.toNat, ?_, ?_⟩
  · rw [hi_eq (a := BitVec.ofNat 64 a.toNat) (fun i h => by rw [BitVec.getLsbD_append]; simp)]
    unfold bvi; rw [BitVec.toNat_ofNat]; omega
  · rw [lo_eq (a := BitVec.ofNat 64 b.toNat) (fun i h => by rw [BitVec.getLsbD_append]; simp [h])]
    unfold bvi; rw [BitVec.toNat_ofNat]; omega


/-! ### numbers -/
theorem wi {n : Int} (h : -9223372036854775808 ≤ n ∧ n < 9223372036854775808) : IntKind.i64.wrap n = n := by
  simp [IntKind.wrap, IntKind.bits, IntKind.signed]; omega
theorem wu {n : Int} (h : 0 ≤ n ∧ n < 18446744073709551616) : IntKind.u64.wrap n = n := by
  simp [IntKind.wrap, IntKind.bits, IntKind.signed]; omega
theorem bits_u64 : IntKind.u64.bits = 64 := rfl
theorem nn {n : Int} (h : 0 ≤ n) : (0 ≤ n) = True := eq_true h
theorem tnA (n : Nat) : ((n : Int) - 64).toNat = n - 64 := by omega
theorem nc (n : Nat) : ((no_index (OfNat.ofNat n) : Nat) : Int) = OfNat.ofNat n := rfl
theorem tnC (n : Nat) : (127 - (n : Int)).toNat = 127 - n := by omega
theorem tnB (n : Nat) : (64 - (n : Int)).toNat = 64 - n := by omega
theorem cs1 (n : Nat) : ((n + 1 : Nat) : Int) - 1 = (n : Int) := by omega
theorem bne_i (x : Int) : (x != 0) = !(x == 0) := rfl
theorem bqt (b : Bool) : (b == true) = b := by cases b <;> rfl
theorem bqf (b : Bool) : (b == false) = !b := by cases b <;> rfl
theorem dge {a b : Int} (h : a ≥ b) : decide (a ≥ b) = true := decide_eq_true h
theorem dnge {a b : Int} (h : ¬ a ≥ b) : decide (a ≥ b) = false := decide_eq_false h
theorem dlt {a b : Int} (h : a < b) : decide (a < b) = true := decide_eq_true h
theorem dnlt {a b : Int} (h : ¬ a < b) : decide (a < b) = false := decide_eq_false h
theorem dgt {a b : Int} (h : a > b) : decide (a > b) = true := decide_eq_true h
theorem dngt {a b : Int} (h : ¬ a > b) : decide (a > b) = false := decide_eq_false h
theorem dle {a b : Int} (h : a ≤ b) : decide (a ≤ b) = true := decide_eq_true h
theorem dnle {a b : Int} (h : ¬ a ≤ b) : decide (a ≤ b) = false := decide_eq_false h

theorem bits_or_hl (x : BitVec 128) (n : Nat) (hn : n < 64) :
    bits .or .u64 (lo x / 2 ^ min n 64) (IntKind.u64.wrap (hi x * 2 ^ min (64 - n) 64)) = lo (x >>> n) := by
  unfold hi lo
  rw [shr_bvi, shl_bvi, bits_or]; symm
  refine lo_eq (fun i h => ?_)
  simp [BitVec.getLsbD_extractLsb', BitVec.getLsbD_ushiftRight, BitVec.getLsbD_shiftLeft, h]
  by_cases h2 : n + i < 64
  · simp [h2, show i < 64 - n from by omega]
  · simp [h2, show ¬ i < 64 - n from by omega, show 64 + (i - (64 - n)) = n + i from by omega, show i - (64 - n) < 64 from by omega]
theorem hi_shr_lt (x : BitVec 128) (n : Nat) (hn : n < 64) : hi x / 2 ^ min n 64 = hi (x >>> n) := by
  unfold hi
  rw [shr_bvi]; symm
  refine hi_eq (fun i h => ?_)
  simp [BitVec.getLsbD_extractLsb', BitVec.getLsbD_ushiftRight, h]
  by_cases h2 : n + i < 64
  · simp [h2, show 64 + (n + i) = n + (64 + i) from by omega]
  · simp [h2, BitVec.getLsbD_of_ge x (n + (64 + i)) (by omega)]
theorem hi_shr_ge (x : BitVec 128) (n : Nat) (hn : 64 ≤ n) : (0 : Int) = hi (x >>> n) := by
  rw [← hi_zero]; unfold hi; symm
  refine hi_eq (fun i h => ?_)
  simp [BitVec.getLsbD_extractLsb', BitVec.getLsbD_ushiftRight, h]
  exact BitVec.getLsbD_of_ge x (n + (64 + i)) (by omega)
theorem lo_shr_ge (x : BitVec 128) (n : Nat) (hn : 64 ≤ n) : hi x / 2 ^ min (n - 64) 64 = lo (x >>> n) := by
  unfold hi lo
  rw [shr_bvi]; symm
  refine lo_eq (fun i h => ?_)
  simp [BitVec.getLsbD_extractLsb', BitVec.getLsbD_ushiftRight, h]
  by_cases h2 : n - 64 + i < 64
  · simp [h2, show 64 + (n - 64 + i) = n + i from by omega]
  · simp [h2, BitVec.getLsbD_of_ge x (n + i) (by omega)]
theorem bits_or_hr (x : BitVec 128) (n : Nat) (hn : n < 64) :
    bits .or .u64 (IntKind.u64.wrap (hi x * 2 ^ min n 64)) (lo x / 2 ^ min (64 - n) 64) = hi (x <<< n) := by
  unfold hi lo
  rw [shr_bvi, shl_bvi, bits_or]; symm
  refine hi_eq (fun i h => ?_)
  simp [BitVec.getLsbD_extractLsb', BitVec.getLsbD_ushiftRight, BitVec.getLsbD_shiftLeft, h, show 64 + i < 128 from by omega, show ¬ 64 + i < n from by omega]
  by_cases h2 : i < n
  · simp [h2, show 64 - n + i < 64 from by omega, show 64 + i - n = 64 - n + i from by omega]; exact BitVec.getLsbD_eq_getElem _
  · simp [h2, show ¬ 64 - n + i < 64 from by omega, show i - n < 64 from by omega, show 64 + i - n = 64 + (i - n) from by omega]; exact BitVec.getLsbD_eq_getElem _
theorem lo_shl_lt (x : BitVec 128) (n : Nat) (hn : n < 64) : IntKind.u64.wrap (lo x * 2 ^ min n 64) = lo (x <<< n) := by
  unfold lo
  rw [shl_bvi]; symm
  refine lo_eq (fun i h => ?_)
  simp [BitVec.getLsbD_extractLsb', BitVec.getLsbD_shiftLeft, h, show i < 128 from by omega]
  by_cases h2 : i < n
  · simp [h2]
  · simp [h2, show i - n < 64 from by omega]; exact BitVec.getLsbD_eq_getElem _
theorem lo_shl_ge (x : BitVec 128) (n : Nat) (hn : 64 ≤ n) : (0 : Int) = lo (x <<< n) := by
  rw [← lo_zero]; unfold lo; symm
  refine lo_eq (fun i h => ?_)
  simp [BitVec.getLsbD_extractLsb', BitVec.getLsbD_shiftLeft, h, show i < 128 from by omega, show i < n from by omega]
theorem hi_shl_ge (x : BitVec 128) (n : Nat) (hn : 64 ≤ n) : IntKind.u64.wrap (lo x * 2 ^ min (n - 64) 64) = hi (x <<< n) := by
  unfold hi lo
  rw [shl_bvi]; symm
  refine hi_eq (fun i h => ?_)
  simp [BitVec.getLsbD_extractLsb', BitVec.getLsbD_shiftLeft, h, show 64 + i < 128 from by omega]
  by_cases h2 : i < n - 64
  · simp [h2, show 64 + i < n from by omega]
  · simp [h2, show ¬ 64 + i < n from by omega, show i - (n - 64) < 64 from by omega, show 64 + i - n = i - (n - 64) from by omega]; exact BitVec.getLsbD_eq_getElem _
theorem bit_lo (x : BitVec 128) : (bits .and .u64 (lo x) 1 == 1) = x.getLsbD 0 := by
  have e : (1 : Int) = bvi 1 := by decide
  unfold lo
  rw [e, bits_and, bvi_inj]
  have : (BitVec.extractLsb' 0 64 x &&& 1 == 1) = (BitVec.extractLsb' 0 64 x).getLsbD 0 := by
    rw [Bool.eq_iff_iff, beq_iff_eq]
    constructor
    · intro h; have := congrArg (fun v => v.getLsbD 0) h; simpa using this
    · intro h; apply BitVec.eq_of_getLsbD_eq; intro i hi'
      rw [BitVec.getLsbD_and]
      by_cases h0 : i = 0
      · subst h0; simp at h ⊢; exact h
      · have : (1 : BitVec 64).getLsbD i = false := by
          rw [show (1 : BitVec 64) = 1#64 from rfl, BitVec.getLsbD_one]
          simp [h0]
        rw [this, Bool.and_false]
  rw [this]; simp [BitVec.getLsbD_extractLsb']

theorem rem_bvi (a : BitVec 64) (n : Nat) (hn : n < 64) : ((bvi a / 2 ^ min n 64).tmod 2 == 1) = a.getLsbD n := by
  rw [shr_bvi]
  have h : ∀ b : BitVec 64, ((bvi b).tmod 2 == 1) = b.getLsbD 0 := by
    intro b
    have e : b.getLsbD 0 = decide (b.toNat % 2 = 1) := by simp [BitVec.getLsbD, Nat.testBit_zero]
    have e2 : (bvi b).tmod 2 = ((b.toNat % 2 : Nat) : Int) := by unfold bvi; rw [Int.tmod_eq_emod_of_nonneg (by omega)]; omega
    rw [e, e2, Bool.eq_iff_iff, beq_iff_eq, decide_eq_true_eq]
    omega
  rw [h, BitVec.getLsbD_ushiftRight, Nat.add_zero]
theorem rem_lo (x : BitVec 128) (n : Nat) (hn : n < 64) : ((lo x / 2 ^ min n 64).tmod 2 == 1) = x.getLsbD n := by
  unfold lo; rw [rem_bvi _ n hn, BitVec.getLsbD_extractLsb']; simp [hn]
theorem rem_hi (x : BitVec 128) (n : Nat) (h0 : 64 ≤ n) (hn : n < 128) : ((hi x / 2 ^ min (n - 64) 64).tmod 2 == 1) = x.getLsbD n := by
  unfold hi; rw [rem_bvi _ (n - 64) (by omega), BitVec.getLsbD_extractLsb']; simp [show n - 64 < 64 from by omega, show 64 + (n - 64) = n from by omega]
/-- the number of n bits from lo on -/
def num (b : Nat → Bool) (lo : Nat) : Nat → Nat
  | 0 => 0
  | n + 1 => (if b lo then 1 else 0) + 2 * num b (lo + 1) n
theorem num_lt (b : Nat → Bool) : ∀ (n lo : Nat), num b lo n < 2 ^ n
  | 0, lo => by simp [num]
  | n + 1, lo => by
    have := num_lt b n (lo + 1)
    unfold num
    rw [Nat.pow_succ]
    split <;> omega
theorem num_lt63 (b : Nat → Bool) (lo n : Nat) (h : n ≤ 63) : num b lo n < 9223372036854775808 :=
  Nat.lt_of_lt_of_le (num_lt b n lo) (Nat.pow_le_pow_right (n := 2) (by omega) h)
theorem num_bit (b : Nat → Bool) : ∀ (n lo i : Nat), (num b lo n).testBit i = (decide (i < n) && b (lo + i))
  | 0, lo, i => by simp [num]
  | n + 1, lo, 0 => by
    unfold num
    rw [Nat.testBit_zero]
    cases b lo <;> simp
  | n + 1, lo, i + 1 => by
    unfold num
    rw [Nat.testBit_succ]
    have : ((if b lo then 1 else 0) + 2 * num b (lo + 1) n) / 2 = num b (lo + 1) n := by split <;> omega
    rw [this, num_bit b n (lo + 1) i]
    simp [show lo + 1 + i = lo + (i + 1) from by omega]
def ofBits (b : Nat → Bool) : BitVec 128 := BitVec.ofNat 128 (num b 0 128)
theorem ofBits_bit (b : Nat → Bool) (i : Nat) (h : i < 128) : (ofBits b).getLsbD i = b i := by
  unfold ofBits
  rw [BitVec.getLsbD_ofNat, num_bit]
  simp [h]
theorem ofBits_eq (b : Nat → Bool) (x : BitVec 128) (h : ∀ i, i < 128 → b i = x.getLsbD i) : ofBits b = x := by
  apply BitVec.eq_of_getLsbD_eq
  intro i hlt
  rw [ofBits_bit b i hlt, h i hlt]
theorem hi_ofBits (b : Nat → Bool) : hi (ofBits b) = (num b 64 64 : Int) := by
  have hb := num_lt b 64 64
  rw [hi_eq (a := BitVec.ofNat 64 (num b 64 64)) (fun i h => by rw [BitVec.getLsbD_ofNat, num_bit, ofBits_bit b _ (by omega)]; simp [h])]
  unfold bvi
  rw [BitVec.toNat_ofNat, Nat.mod_eq_of_lt hb]
theorem lo_ofBits (b : Nat → Bool) : lo (ofBits b) = (num b 0 64 : Int) := by
  have hb := num_lt b 64 0
  rw [lo_eq (a := BitVec.ofNat 64 (num b 0 64)) (fun i h => by rw [BitVec.getLsbD_ofNat, num_bit, ofBits_bit b _ (by omega)]; simp [h])]
  unfold bvi
  rw [BitVec.toNat_ofNat, Nat.mod_eq_of_lt hb]
/-- the n lowest bits -/
def ones (n : Nat) : BitVec 128 := BitVec.ofNat 128 (2 ^ n - 1)
theorem low_lo (n : Nat) (hn : n < 128) : (((BitVec.extractLsb' 0 64 ((1 : BitVec 128) <<< n)).toNat + 18446744073709551616 - 1) % 18446744073709551616 : Nat) = lo (ones n) := by
  have : ∀ k : Fin 128, ((((BitVec.extractLsb' 0 64 ((1 : BitVec 128) <<< k.val)).toNat + 18446744073709551616 - 1) % 18446744073709551616 : Nat) : Int) = lo (ones k.val) := by decide +kernel
  exact this ⟨n, hn⟩
theorem low_hi (n : Nat) (hn : n < 128) : IntKind.u64.wrap (hi ((1 : BitVec 128) <<< n) - ((if (BitVec.extractLsb' 0 64 ((1 : BitVec 128) <<< n)).toNat < 1 then 1 else 0 : Nat) : Int)) = hi (ones n) := by
  have : ∀ k : Fin 128, IntKind.u64.wrap (hi ((1 : BitVec 128) <<< k.val) - ((if (BitVec.extractLsb' 0 64 ((1 : BitVec 128) <<< k.val)).toNat < 1 then 1 else 0 : Nat) : Int)) = hi (ones k.val) := by decide +kernel
  exact this ⟨n, hn⟩
theorem eqI_hd (x y : BitVec 128) : eqI [hi x, lo x] [hi y, lo y] = (x == y) := by
  rw [← hi_lo_eq]; simp only [eqI, Bool.and_true]
theorem eqI_z (x : BitVec 128) : eqI [hi x, lo x] [0, 0] = (x == 0) := by
  rw [← eqI_hd, hi_zero, lo_zero]
def fieldB (a b m : Int) : Bool := decide (0 ≤ a ∧ 0 ≤ b ∧ b ≤ m ∧ a + b ≤ 128)
/-- does a number not fit into b bits? -/
def over (b : Nat) (v : BitVec 64) : Bool := bits .andNot .u64 (bvi v) (lo (ones b)) != 0
def putE (a b : Int) (v : BitVec 64) : Int := if fieldB a b 64 then (if over b.toNat v then 4 else 0) else 1
def putB (x : BitVec 128) (a b : Nat) (v : BitVec 64) : BitVec 128 := (x &&& ~~~(ones b <<< a)) ||| (v.zeroExtend 128 <<< a)
theorem hi_ext (v : BitVec 64) : hi (v.zeroExtend 128) = 0 := by
  rw [← hi_zero]; unfold hi; symm
  refine hi_eq (fun i h => ?_)
  simp [BitVec.getLsbD_extractLsb', h]
theorem lo_ext (v : BitVec 64) : lo (v.zeroExtend 128) = bvi v := by
  refine lo_eq (fun i h => ?_)
  simp [h, show i < 128 from by omega]
/-! ### cubes -/
structure Cube where
  v : BitVec 128
  c : BitVec 128
deriving DecidableEq
def cb (k : Cube) : List Dat := [.v (.int .u64 (hi k.v)), .v (.int .u64 (lo k.v)), .v (.int .u64 (hi k.c)), .v (.int .u64 (lo k.c))]
def Cube.sound (k : Cube) : Bool := k.v &&& ~~~k.c == 0
def mkC (v c : BitVec 128) : Cube := ⟨v &&& c, c⟩
def hasC (k : Cube) (h : BitVec 128) : Bool := k.sound && (h &&& k.c == k.v)
def apart (a b : Cube) : BitVec 128 := (a.v ^^^ b.v) &&& (a.c &&& b.c)
def meetO (a b : Cube) : Bool := a.sound && b.sound && (apart a b == 0)
def meetV (a b : Cube) : Cube := if meetO a b then ⟨a.v ||| b.v, a.c ||| b.c⟩ else ⟨0, 0⟩
def withinC (a b : Cube) : Bool := a.sound && b.sound && (b.c &&& ~~~a.c == 0) && (apart a b == 0)
def setH (h : BitVec 128) (s : Cube) : BitVec 128 := (h &&& ~~~s.c) ||| (s.v &&& s.c)
def beforeO (k s : Cube) : Bool := k.sound && (apart k (mkC s.v s.c) == 0)
def beforeV (k s : Cube) : Cube := if beforeO k s then mkC k.v (k.c &&& ~~~s.c) else ⟨0, 0⟩
def afterC (k s : Cube) : Cube := if k.sound then ⟨setH k.v s, k.c ||| s.c⟩ else ⟨0, 0⟩

def fieldE (a b : Int) (v : BitVec 64) (n : Int) : Int := if putE a b v = 0 then (if n < 0 ∨ n > b then 4 else 0) else putE a b v
def fieldV (a b : Int) (v : BitVec 64) (n : Int) : Cube := if fieldE a b v n = 0 then mkC (putB 0 a.toNat b.toNat v) (ones n.toNat <<< (a + b - n).toNat) else ⟨0, 0⟩
/-! ### texts -/
def chI (k : Cube) (i : Nat) : Int := if k.c.getLsbD i then (if k.v.getLsbD i then 49 else 48) else 120
def txt (k : Cube) : ByteArray := strOfNums ((AL.rng 128).map fun i => chI k (127 - i))
theorem sound_iff (k : Cube) : k.sound = true ↔ ∀ i, i < 128 → k.v.getLsbD i = true → k.c.getLsbD i = true := by
  unfold Cube.sound
  rw [beq_iff_eq]
  constructor
  · intro h i hi' hv
    have := congrArg (fun z => z.getLsbD i) h
    simp [hi', hv] at this
    rw [BitVec.getLsbD_eq_getElem hi']; simpa using this
  · intro h
    apply BitVec.eq_of_getLsbD_eq
    intro i hlt
    have := h i hlt
    simp [hlt]
    cases hv : k.v.getLsbD i
    · simp [BitVec.getLsbD_eq_getElem hlt] at hv; simp [hv]
    · have h2 := this hv
      simp [BitVec.getLsbD_eq_getElem hlt] at h2; simp [h2]
/-- rows of cubes -/
def rowC (l : List Cube) : Nat → List Dat := fun i => cb (l.getD i ⟨0, 0⟩)
def lessGo (b : Cube) (more : BitVec 128) : Nat → Cube → List Cube
  | 0, _ => []
  | n + 1, r => if more.getLsbD n then ⟨(r.v ||| (b.v &&& (ones 1 <<< n))) ^^^ (ones 1 <<< n), r.c ||| (ones 1 <<< n)⟩ :: lessGo b more n ⟨r.v ||| (b.v &&& (ones 1 <<< n)), r.c ||| (ones 1 <<< n)⟩ else lessGo b more n r
def lessL (a b : Cube) : List Cube := if a.sound && b.sound then (if meetO a b then lessGo b (b.c &&& ~~~a.c) 128 a else [a]) else []
section
open Go.Proofs.Ytokibghllpfeaaa.AL
attribute [go_sem] runS_nil runS_cons runA runB runC runD_nil runD_cons runAD runBD runCD isCall wantedA List.getElem?_toArray stepE opEff mapEv Op.operands Call.operands locNeed
attribute [go_sem] ASt.locAt ASt.eval AL.look frOf effMove effPick pickAV boolAV effNil effBox effAlloc effLoad effStore effFieldAddr effIndexAddr effField effIndex effBin effInt
attribute [go_sem] effUn effConvert effMake effBytes effStr numD effBuild effBuildSlice effBuildSlice0 nilR nilAV effNil' effSlice effFunc effExtract effBuiltin effLen effAppend AV.mentions datAV datsAV cellsAV pvAV
attribute [go_sem] intAV lenAV srcAV intsD TK.agg fillD rowsOf bnds bndAV callK callAV calleeAV resAV dstOK effOK ASt.apply ASt.upd ASt.put unusedB LV.mentions Value.oneCell'
attribute [go_sem] Eff.val Eff.upd Eff.fresh Eff.obl List.contains_nil List.contains_cons List.elem_cons List.elem_nil List.map_cons List.map_nil List.mapM_cons List.mapM_nil
attribute [go_sem] List.flatMap_cons List.flatMap_nil List.length_cons List.length_nil List.take_succ_cons List.take_zero List.take_nil List.drop_succ_cons List.drop_zero
attribute [go_sem] List.drop_nil List.nil_append List.cons_append List.append_nil List.zip_cons_cons List.zip_nil_left List.zip_nil_right List.all_cons List.all_nil List.isEmpty_nil
attribute [go_sem] List.isEmpty_cons List.getElem?_cons_zero List.getElem?_cons_succ List.getElem?_nil List.range'_succ List.range'_zero cond_true cond_false Option.map_some
attribute [go_sem] Option.map_none Option.getD_some Option.getD_none Option.bind_some Option.isSome_some Option.isSome_none Option.pure_def Option.bind_eq_bind true_and and_true
attribute [go_sem] decide_true decide_false decide_eq_true_eq Array.toList_append Nat.succ_ne_zero Nat.add_zero Nat.zero_add Bool.and_true Bool.true_and Bool.and_false
attribute [go_sem] Bool.false_and Bool.or_false Bool.or_true Bool.not_true Bool.not_false Bool.false_eq_true beq_self_eq_true BEq.rfl ne_eq not_false_eq_true not_true_eq_false
attribute [go_sem] Bool.not_eq_true' Nat.le_refl Int.toNat_natCast List.reverse_cons List.reverse_nil Nat.mul_one Nat.one_mul implies_true nc tnC cs1 Option.some.injEq wi wu nn
attribute [go_sem] ownX ownD effLoadO effStoreO effIndexAddrO effFieldAddrO effMakeO effBuildSlice0O effAppendO cvAV effFuncO CV.mentions
attribute [go_sem] mapX effLenM effDelete effCopyO effNilP nilP nilPB nilFB effMakeMap effLookup effUpdate mapKs mapKZ keyKinds kindsV keyAV keyObl cvsAV fillC effBuildC effFieldC CV.av
attribute [go_sem] bits_u64 bqt bqf dge dnge dgt dngt dlt dnlt dle dnle tnA tnB PV.agg.injEq PV.d.injEq Dat.v.injEq
end
end Go.Proofs.Ytokibghllpfeaaa
