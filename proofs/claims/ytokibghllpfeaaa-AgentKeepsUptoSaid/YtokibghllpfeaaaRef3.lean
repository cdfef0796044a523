/- The document's package of layer 2, on: what its functions do. Conditions: none. -/
import Derived.Test.YtokibghllpfeaaaRef2
set_option linter.unusedSimpArgs false
set_option linter.unusedVariables false
namespace Go.Proofs.Ytokibghllpfeaaa
open Go.Proofs.Ytokibghllpfeaaa.AL

/-- what both texts say -/
def meetT (a b : Cube) : Cube := ⟨(a.v &&& a.c) ||| (b.v &&& b.c), a.c ||| b.c⟩
theorem apart_iff (a b : Cube) : (apart a b == 0) = true ↔ ∀ i, i < 128 → a.c.getLsbD i = true → b.c.getLsbD i = true → a.v.getLsbD i = b.v.getLsbD i := by
  unfold apart
  rw [beq_iff_eq]
  constructor
  · intro h i hlt ha hb
    have := congrArg (fun z => z.getLsbD i) h
    simp only [BitVec.getLsbD_and, BitVec.getLsbD_xor, ha, hb, Bool.and_self, Bool.and_true, BitVec.getLsbD_zero] at this
    simpa using this
  · intro h
    apply BitVec.eq_of_getLsbD_eq
    intro i hlt
    have := h i hlt
    simp only [BitVec.getLsbD_and, BitVec.getLsbD_xor, BitVec.getLsbD_zero]
    cases ha : a.c.getLsbD i <;> cases hb : b.c.getLsbD i <;> simp
    simpa using this ha hb
theorem meetT_b {a b : Cube} {n : Nat} (h : a.c.getLsbD n = false) : chI (meetT a b) n = chI b n := by
  simp only [chI, meetT, BitVec.getLsbD_or, BitVec.getLsbD_and, h, Bool.and_false, Bool.false_or]
  cases b.c.getLsbD n <;> simp
theorem meetT_a {a b : Cube} {n : Nat} (h : a.c.getLsbD n = true) (h2 : b.c.getLsbD n = true → a.v.getLsbD n = b.v.getLsbD n) : chI (meetT a b) n = chI a n := by
  simp only [chI, meetT, BitVec.getLsbD_or, BitVec.getLsbD_and, h, Bool.and_true, Bool.true_or, if_true]
  cases hb : b.c.getLsbD n
  · simp
  · have := h2 hb
    simp [this]
theorem merge_step (a b : Cube) (c : Int) (i j : Nat) (hi : i < 128) (hj : j < 128) (hc : chI (meetT a b) (127 - i) = c) :
    (if j = i then Dat.v (.int .u8 c) else Dat.v (.int .u8 (if j < i then chI (meetT a b) (127 - j) else chI a (127 - j)))) = Dat.v (.int .u8 (if j < i + 1 then chI (meetT a b) (127 - j) else chI a (127 - j))) := by
  by_cases h : j = i
  · subst h; rw [if_pos rfl, if_pos (by omega), hc]
  · rw [if_neg h]
    by_cases h2 : j < i
    · rw [if_pos h2, if_pos (by omega)]
    · rw [if_neg h2, if_neg (by omega)]
theorem merge_stay (a b : Cube) (i j : Nat) (hi : i < 128) (hj : j < 128) (hc : chI (meetT a b) (127 - i) = chI a (127 - i)) :
    Dat.v (.int .u8 (if j < i then chI (meetT a b) (127 - j) else chI a (127 - j))) = Dat.v (.int .u8 (if j < i + 1 then chI (meetT a b) (127 - j) else chI a (127 - j))) := by
  by_cases h : j = i
  · subst h; rw [if_neg (by omega), if_pos (by omega), hc]
  · by_cases h2 : j < i
    · rw [if_pos h2, if_pos (by omega)]
    · rw [if_neg h2, if_neg (by omega)]
def meetI (a b : Cube) (s : {i : Fin 129 // ∀ j, j < i.val → a.c.getLsbD (127 - j) = true → b.c.getLsbD (127 - j) = true → a.v.getLsbD (127 - j) = b.v.getLsbD (127 - j)}) : ASt :=
  ⟨[(7, .p (.d (.v (.int .i64 (s.val.val : Int))))), (6, .row 9 1 0 128), (1, .p (.d (.v (.string (txt b))))), (0, .p (.d (.v (.string (txt a)))))],
   [(9, .arr 5 128 fun j => .v (.int .u8 (if j < s.val.val then chI (meetT a b) (127 - j) else chI a (127 - j))))]⟩
def withinT (a b : Cube) : Bool := (b.c &&& ~~~a.c == 0) && (apart a b == 0)
theorem withinT_iff (a b : Cube) : withinT a b = true ↔ ∀ i, i < 128 → b.c.getLsbD i = true → a.c.getLsbD i = true ∧ a.v.getLsbD i = b.v.getLsbD i := by
  unfold withinT
  rw [Bool.and_eq_true, apart_iff, beq_iff_eq]
  constructor
  · intro ⟨h, h2⟩ i hlt hb
    have := congrArg (fun z => z.getLsbD i) h
    have e : a.c.getLsbD i = true := by
      simp only [BitVec.getLsbD_and, BitVec.getLsbD_not, hb, hlt, decide_true, Bool.true_and, BitVec.getLsbD_zero] at this
      simpa using this
    exact ⟨e, h2 i hlt e hb⟩
  · intro h
    refine ⟨?_, fun i hlt _ hb => (h i hlt hb).2⟩
    apply BitVec.eq_of_getLsbD_eq
    intro i hlt
    have := h i hlt
    simp only [BitVec.getLsbD_and, BitVec.getLsbD_not, hlt, decide_true, Bool.true_and, BitVec.getLsbD_zero]
    cases hb : b.c.getLsbD i
    · simp
    · rw [(this hb).1]; simp
def withinI (a b : Cube) (s : {i : Fin 129 // ∀ j, j < i.val → b.c.getLsbD (127 - j) = true → a.c.getLsbD (127 - j) = true ∧ a.v.getLsbD (127 - j) = b.v.getLsbD (127 - j)}) : ASt :=
  ⟨[(5, .p (.d (.v (.int .i64 (s.val.val : Int))))), (1, .p (.d (.v (.string (txt b))))), (0, .p (.d (.v (.string (txt a)))))], []⟩
theorem bits_step (f : Nat → Bool) (x : Bool) (i j : Nat) (hi : i < 128) (hj : j < 128) (hx : f (127 - i) = x) :
    (if j = 127 - i then Dat.v (.bool x) else Dat.v (.bool (decide (127 - j < i) && f j))) = Dat.v (.bool (decide (127 - j < i + 1) && f j)) := by
  by_cases h : j = 127 - i
  · rw [if_pos h, ← hx, h, decide_eq_true (show 127 - (127 - i) < i + 1 from by omega)]; rfl
  · rw [if_neg h]
    by_cases h2 : 127 - j < i
    · rw [decide_eq_true h2, decide_eq_true (show 127 - j < i + 1 from by omega)]
    · rw [decide_eq_false h2, decide_eq_false (show ¬ 127 - j < i + 1 from by omega)]
end Go.Proofs.Ytokibghllpfeaaa
