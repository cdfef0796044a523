/- The document's package of layer 2: what its functions do. Conditions: none. -/
import Derived.Test.YtokibghllpfeaaaRef1
set_option linter.unusedSimpArgs false
set_option linter.unusedVariables false
namespace Go.Proofs.Ytokibghllpfeaaa
open Go.Proofs.Ytokibghllpfeaaa.AL

theorem text_step (k : Cube) (c : Int) (i j : Nat) (hi : i < 128) (hj : j < 128) (hc : chI k i = c) :
    (if j = 127 - i then Dat.v (.int .u8 c) else Dat.v (.int .u8 (if 127 - j < i then chI k (127 - j) else 0))) = Dat.v (.int .u8 (if 127 - j < i + 1 then chI k (127 - j) else 0)) := by
  by_cases h : j = 127 - i
  · rw [if_pos h, if_pos (by omega), show 127 - j = i from by omega, hc]
  · rw [if_neg h]
    by_cases h2 : 127 - j < i
    · rw [if_pos h2, if_pos (by omega)]
    · rw [if_neg h2, if_neg (by omega)]
theorem txt_size (k : Cube) : (txt k).size = 128 := by unfold txt; rw [strOfNums_size]; simp
theorem txt_at (k : Cube) (i : Nat) (hi : i < 128) : ((((txt k).data.toList.getD i 0).toNat : Nat) : Int) = chI k (127 - i) := by
  unfold txt
  rw [rng_eq, strOfNums_data, List.getD_eq_getElem?_getD, List.getElem?_map, List.getElem?_map, List.getElem?_range hi]
  simp only [Option.map_some, Option.getD_some]
  unfold chI
  split
  · split <;> decide
  · decide
theorem hasT_iff (k : Cube) (x : BitVec 128) : (x &&& k.c == k.v &&& k.c) = true ↔ ∀ i, i < 128 → k.c.getLsbD i = true → k.v.getLsbD i = x.getLsbD i := by
  rw [beq_iff_eq]
  constructor
  · intro h i hlt hc
    have := congrArg (fun z => z.getLsbD i) h
    simp only [BitVec.getLsbD_and, hc, Bool.and_true] at this
    exact this.symm
  · intro h
    apply BitVec.eq_of_getLsbD_eq
    intro i hlt
    rw [BitVec.getLsbD_and, BitVec.getLsbD_and]
    cases hc : k.c.getLsbD i
    · simp
    · rw [h i hlt hc]
/-- of a sound cube -/
def hasT (k : Cube) (x : BitVec 128) : Bool := x &&& k.c == k.v &&& k.c
end Go.Proofs.Ytokibghllpfeaaa
