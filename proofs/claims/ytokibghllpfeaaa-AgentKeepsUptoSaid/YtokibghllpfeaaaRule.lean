/- Package rule: rules as data; Same, compare, Before, Set, does, Sound. Conditions: none. -/
import Derived.Test.YtokibghllpfeaaaCube
import Derived.Test.YtokibghllpfeaaaAm
set_option linter.unusedSimpArgs false
set_option linter.unusedVariables false
namespace Go.Proofs.Ytokibghllpfeaaa
open Go.Proofs.Ytokibghllpfeaaa.AL
structure Rule where
  pr : Int
  mt : Cube
  kd : Int
  pt : Int
  tb : Int
  st : Cube
deriving DecidableEq
structure Port where
  kd : Int
  tn : Int
  pe : Int
  at' : Int
  co : Int
deriving DecidableEq
def iD (n : Int) : Dat := .v (.int .i64 n)
def ruleD (r : Rule) : List Dat := [.v (.int .i64 r.pr), .v (.int .u64 (hi r.mt.v)), .v (.int .u64 (lo r.mt.v)), .v (.int .u64 (hi r.mt.c)), .v (.int .u64 (lo r.mt.c)), .v (.int .i64 r.kd), .v (.int .i64 r.pt), .v (.int .i64 r.tb),
  .v (.int .u64 (hi r.st.v)), .v (.int .u64 (lo r.st.v)), .v (.int .u64 (hi r.st.c)), .v (.int .u64 (lo r.st.c))]
def portD (p : Port) : List Dat := [.v (.int .i64 p.kd), .v (.int .i64 p.tn), .v (.int .i64 p.pe), .v (.int .i64 p.at'), .v (.int .i64 p.co)]
def r0 : Rule := ⟨0, ⟨0, 0⟩, 0, 0, 0, ⟨0, 0⟩⟩
def p0 : Port := ⟨0, 0, 0, 0, 0⟩
def rowR (l : List Rule) : Nat → List Dat := fun i => ruleD (l.getD i r0)
def rowP (l : List Port) : Nat → List Dat := fun i => portD (l.getD i p0)
theorem rowR_at (l : List Rule) (i : Nat) : rowR l i = ruleD (l.getD i r0) := rfl
theorem rowP_at (l : List Port) (i : Nat) : rowP l i = portD (l.getD i p0) := rfl
theorem eqI_rule (a b : Rule) : eqI [a.pr, hi a.mt.v, lo a.mt.v, hi a.mt.c, lo a.mt.c, a.kd, a.pt, a.tb, hi a.st.v, lo a.st.v, hi a.st.c, lo a.st.c] [b.pr, hi b.mt.v, lo b.mt.v, hi b.mt.c, lo b.mt.c, b.kd, b.pt, b.tb, hi b.st.v, lo b.st.v, hi b.st.c, lo b.st.c] = (a == b) := by
  obtain ⟨a1, ⟨a2, a3⟩, a4, a5, a6, ⟨a7, a8⟩⟩ := a
  obtain ⟨b1, ⟨b2, b3⟩, b4, b5, b6, ⟨b7, b8⟩⟩ := b
  rw [Bool.eq_iff_iff]
  have e : ∀ x y : BitVec 128, ((hi x == hi y) && (lo x == lo y)) = true ↔ x = y := fun x y => by rw [hi_lo_eq]; exact beq_iff_eq
  simp only [Bool.and_eq_true, beq_iff_eq] at e
  simp only [eqI, Bool.and_eq_true, beq_iff_eq, Bool.and_true, Rule.mk.injEq, Cube.mk.injEq]
  rw [← e a2 b2, ← e a3 b3, ← e a7 b7, ← e a8 b8]
  constructor
  · rintro ⟨h1, h2, h3, h4, h5, h6, h7, h8, h9, h10, h11, h12⟩; exact ⟨h1, ⟨⟨h2, h3⟩, h4, h5⟩, h6, h7, h8, ⟨h9, h10⟩, h11, h12⟩
  · rintro ⟨h1, ⟨⟨h2, h3⟩, h4, h5⟩, h6, h7, h8, ⟨h9, h10⟩, h11, h12⟩; exact ⟨h1, h2, h3, h4, h5, h6, h7, h8, h9, h10, h11, h12⟩
theorem isNaN_c (a : Int) : ACalls Try.prog 70 [.d (.v (.int .i64 a))] (· = [.d (.v (.bool false))]) := by
  have q : (a != a) = false := bne_self_eq_false a
  refine acalls_of_awp Try.func70 rfl (by decide +kernel) (by rw [Try.ntmps70]; simp) ?_; rw [Try.ntmps70]; simp only [frOf]
  (repeat (first | refine awp_seq ?_ | refine awp_yes rfl ?_ | refine awp_no rfl ?_ | refine awp_block ?_ | (refine awp_region fun K hK => ?_) | (refine awp_draw (by kernel_rfl) (by kernel_rfl) fun K hK => ?_) | (refine awp_skip ?_; (first | show AWP _ _ _ _ _ | show loopQ _ _ _ _ _ _ | (simp only [blockQ_n]; first | show AWP _ _ _ _ _ | show loopQ _ _ _ _ _ _))) | (refine awp_exit ?_; (first | show AWP _ _ _ _ _ | show loopQ _ _ _ _ _ _ | (simp only [blockQ_n]; first | show AWP _ _ _ _ _ | show loopQ _ _ _ _ _ _))) | ((first | refine walkS_end (hK _ ?_) | refine walkD_end (hK _ _ (okTrace_spec (by kernel_rfl)) ?_)); clear hK K; (first | show AWP _ _ _ _ _ | show loopQ _ _ _ _ _ _ | (simp only [blockQ_n]; first | show AWP _ _ _ _ _ | show loopQ _ _ _ _ _ _))) | ((first | refine walkS_run1 [] rfl ?_ | refine walkD_run1 [] rfl ?_); simp (maxSteps := 2000000) (disch := omega) only [go_sem, ↓reduceIte, reduceCtorEq, Nat.reduceLT, Nat.reducePow, Nat.reduceLeDiff, Nat.reduceAdd, Nat.reduceMul, Nat.reduceSub, Nat.reduceEqDiff, Nat.reduceBEq, Int.reduceToNat, Int.reduceBEq, Int.reduceBNe, hd, cb, ruleD, portD, eqty81, q]; (repeat (first | refine ⟨by omega, ?_⟩ | refine ⟨True.intro, ?_⟩)))))
  refine awp_ret ⟨_, ?_, rfl⟩; rw [Try.results70]; simp (disch := omega) only [ResVars, ResVar, ptrLoc, go_sem, ↓reduceIte, reduceCtorEq, Nat.reduceLT, Nat.reducePow, Nat.reduceLeDiff, Nat.reduceAdd, Nat.reduceMul, Nat.reduceSub, Nat.reduceEqDiff, Nat.reduceBEq, Int.reduceToNat, Int.reduceBEq, Int.reduceBNe, hd, cb, ruleD, portD, eqty81, q]
def cmpI (a b : Int) : Int := if a < b then -1 else if b < a then 1 else 0
theorem Compare_c (a b : Int) : ACalls Try.prog 56 [.d (.v (.int .i64 a)), .d (.v (.int .i64 b))] (· = [.d (.v (.int .i64 (cmpI a b)))]) := by
  unfold cmpI
  by_cases h1 : a < b
  · rw [if_pos h1]
    refine acalls_of_awp Try.func56 rfl (by decide +kernel) (by rw [Try.ntmps56]; simp) ?_; rw [Try.ntmps56]; simp only [frOf]
    (repeat (first | refine awp_seq ?_ | refine awp_yes rfl ?_ | refine awp_no rfl ?_ | refine awp_block ?_ | (refine awp_region fun K hK => ?_) | (refine awp_draw (by kernel_rfl) (by kernel_rfl) fun K hK => ?_) | (refine awp_skip ?_; (first | show AWP _ _ _ _ _ | show loopQ _ _ _ _ _ _ | (simp only [blockQ_n]; first | show AWP _ _ _ _ _ | show loopQ _ _ _ _ _ _))) | (refine awp_exit ?_; (first | show AWP _ _ _ _ _ | show loopQ _ _ _ _ _ _ | (simp only [blockQ_n]; first | show AWP _ _ _ _ _ | show loopQ _ _ _ _ _ _))) | ((first | refine walkS_end (hK _ ?_) | refine walkD_end (hK _ _ (okTrace_spec (by kernel_rfl)) ?_)); clear hK K; (first | show AWP _ _ _ _ _ | show loopQ _ _ _ _ _ _ | (simp only [blockQ_n]; first | show AWP _ _ _ _ _ | show loopQ _ _ _ _ _ _))) | ((first | refine walkS_call3 rfl rfl rfl ?_ | refine walkD_call3 rfl rfl rfl ?_); simp (maxSteps := 2000000) (disch := omega) only [go_sem, ↓reduceIte, reduceCtorEq, Nat.reduceLT, Nat.reducePow, Nat.reduceLeDiff, Nat.reduceAdd, Nat.reduceMul, Nat.reduceSub, Nat.reduceEqDiff, Nat.reduceBEq, Int.reduceToNat, Int.reduceBEq, Int.reduceBNe, hd, cb, ruleD, portD, eqty81]; (first | refine ⟨_, isNaN_c a, ?_⟩ | refine ⟨_, isNaN_c b, ?_⟩)) | ((first | refine walkS_run1 [] rfl ?_ | refine walkD_run1 [] rfl ?_); simp (maxSteps := 2000000) (disch := omega) only [go_sem, ↓reduceIte, reduceCtorEq, Nat.reduceLT, Nat.reducePow, Nat.reduceLeDiff, Nat.reduceAdd, Nat.reduceMul, Nat.reduceSub, Nat.reduceEqDiff, Nat.reduceBEq, Int.reduceToNat, Int.reduceBEq, Int.reduceBNe, hd, cb, ruleD, portD, eqty81]; (repeat (first | refine ⟨by omega, ?_⟩ | refine ⟨True.intro, ?_⟩)))))
    refine awp_ret ⟨_, ?_, rfl⟩; rw [Try.results56]; simp (disch := omega) only [ResVars, ResVar, ptrLoc, go_sem, ↓reduceIte, reduceCtorEq, Nat.reduceLT, Nat.reducePow, Nat.reduceLeDiff, Nat.reduceAdd, Nat.reduceMul, Nat.reduceSub, Nat.reduceEqDiff, Nat.reduceBEq, Int.reduceToNat, Int.reduceBEq, Int.reduceBNe, hd, cb, ruleD, portD, eqty81]
  · rw [if_neg h1]
    by_cases h2 : b < a
    · rw [if_pos h2]
      refine acalls_of_awp Try.func56 rfl (by decide +kernel) (by rw [Try.ntmps56]; simp) ?_; rw [Try.ntmps56]; simp only [frOf]
      (repeat (first | refine awp_seq ?_ | refine awp_yes rfl ?_ | refine awp_no rfl ?_ | refine awp_block ?_ | (refine awp_region fun K hK => ?_) | (refine awp_draw (by kernel_rfl) (by kernel_rfl) fun K hK => ?_) | (refine awp_skip ?_; (first | show AWP _ _ _ _ _ | show loopQ _ _ _ _ _ _ | (simp only [blockQ_n]; first | show AWP _ _ _ _ _ | show loopQ _ _ _ _ _ _))) | (refine awp_exit ?_; (first | show AWP _ _ _ _ _ | show loopQ _ _ _ _ _ _ | (simp only [blockQ_n]; first | show AWP _ _ _ _ _ | show loopQ _ _ _ _ _ _))) | ((first | refine walkS_end (hK _ ?_) | refine walkD_end (hK _ _ (okTrace_spec (by kernel_rfl)) ?_)); clear hK K; (first | show AWP _ _ _ _ _ | show loopQ _ _ _ _ _ _ | (simp only [blockQ_n]; first | show AWP _ _ _ _ _ | show loopQ _ _ _ _ _ _))) | ((first | refine walkS_call3 rfl rfl rfl ?_ | refine walkD_call3 rfl rfl rfl ?_); simp (maxSteps := 2000000) (disch := omega) only [go_sem, ↓reduceIte, reduceCtorEq, Nat.reduceLT, Nat.reducePow, Nat.reduceLeDiff, Nat.reduceAdd, Nat.reduceMul, Nat.reduceSub, Nat.reduceEqDiff, Nat.reduceBEq, Int.reduceToNat, Int.reduceBEq, Int.reduceBNe, hd, cb, ruleD, portD, eqty81]; (first | refine ⟨_, isNaN_c a, ?_⟩ | refine ⟨_, isNaN_c b, ?_⟩)) | ((first | refine walkS_run1 [] rfl ?_ | refine walkD_run1 [] rfl ?_); simp (maxSteps := 2000000) (disch := omega) only [go_sem, ↓reduceIte, reduceCtorEq, Nat.reduceLT, Nat.reducePow, Nat.reduceLeDiff, Nat.reduceAdd, Nat.reduceMul, Nat.reduceSub, Nat.reduceEqDiff, Nat.reduceBEq, Int.reduceToNat, Int.reduceBEq, Int.reduceBNe, hd, cb, ruleD, portD, eqty81]; (repeat (first | refine ⟨by omega, ?_⟩ | refine ⟨True.intro, ?_⟩)))))
      refine awp_ret ⟨_, ?_, rfl⟩; rw [Try.results56]; simp (disch := omega) only [ResVars, ResVar, ptrLoc, go_sem, ↓reduceIte, reduceCtorEq, Nat.reduceLT, Nat.reducePow, Nat.reduceLeDiff, Nat.reduceAdd, Nat.reduceMul, Nat.reduceSub, Nat.reduceEqDiff, Nat.reduceBEq, Int.reduceToNat, Int.reduceBEq, Int.reduceBNe, hd, cb, ruleD, portD, eqty81]
    · rw [if_neg h2]
      refine acalls_of_awp Try.func56 rfl (by decide +kernel) (by rw [Try.ntmps56]; simp) ?_; rw [Try.ntmps56]; simp only [frOf]
      (repeat (first | refine awp_seq ?_ | refine awp_yes rfl ?_ | refine awp_no rfl ?_ | refine awp_block ?_ | (refine awp_region fun K hK => ?_) | (refine awp_draw (by kernel_rfl) (by kernel_rfl) fun K hK => ?_) | (refine awp_skip ?_; (first | show AWP _ _ _ _ _ | show loopQ _ _ _ _ _ _ | (simp only [blockQ_n]; first | show AWP _ _ _ _ _ | show loopQ _ _ _ _ _ _))) | (refine awp_exit ?_; (first | show AWP _ _ _ _ _ | show loopQ _ _ _ _ _ _ | (simp only [blockQ_n]; first | show AWP _ _ _ _ _ | show loopQ _ _ _ _ _ _))) | ((first | refine walkS_end (hK _ ?_) | refine walkD_end (hK _ _ (okTrace_spec (by kernel_rfl)) ?_)); clear hK K; (first | show AWP _ _ _ _ _ | show loopQ _ _ _ _ _ _ | (simp only [blockQ_n]; first | show AWP _ _ _ _ _ | show loopQ _ _ _ _ _ _))) | ((first | refine walkS_call3 rfl rfl rfl ?_ | refine walkD_call3 rfl rfl rfl ?_); simp (maxSteps := 2000000) (disch := omega) only [go_sem, ↓reduceIte, reduceCtorEq, Nat.reduceLT, Nat.reducePow, Nat.reduceLeDiff, Nat.reduceAdd, Nat.reduceMul, Nat.reduceSub, Nat.reduceEqDiff, Nat.reduceBEq, Int.reduceToNat, Int.reduceBEq, Int.reduceBNe, hd, cb, ruleD, portD, eqty81]; (first | refine ⟨_, isNaN_c a, ?_⟩ | refine ⟨_, isNaN_c b, ?_⟩)) | ((first | refine walkS_run1 [] rfl ?_ | refine walkD_run1 [] rfl ?_); simp (maxSteps := 2000000) (disch := omega) only [go_sem, ↓reduceIte, reduceCtorEq, Nat.reduceLT, Nat.reducePow, Nat.reduceLeDiff, Nat.reduceAdd, Nat.reduceMul, Nat.reduceSub, Nat.reduceEqDiff, Nat.reduceBEq, Int.reduceToNat, Int.reduceBEq, Int.reduceBNe, hd, cb, ruleD, portD, eqty81]; (repeat (first | refine ⟨by omega, ?_⟩ | refine ⟨True.intro, ?_⟩)))))
      refine awp_ret ⟨_, ?_, rfl⟩; rw [Try.results56]; simp (disch := omega) only [ResVars, ResVar, ptrLoc, go_sem, ↓reduceIte, reduceCtorEq, Nat.reduceLT, Nat.reducePow, Nat.reduceLeDiff, Nat.reduceAdd, Nat.reduceMul, Nat.reduceSub, Nat.reduceEqDiff, Nat.reduceBEq, Int.reduceToNat, Int.reduceBEq, Int.reduceBNe, hd, cb, ruleD, portD, eqty81]
def portR (r : Rule) (k : Int) (ps : List Port) : Bool := r.tb == 0 && decide (0 ≤ r.pt) && decide (r.pt < ps.length) && (ps.getD r.pt.toNat p0).kd == k
def doesR (r : Rule) (t : Int) (ps : List Port) : Bool :=
  if r.kd = 1 then r.pt == 0 && r.tb == 0 else if r.kd = 2 then portR r 1 ps else if r.kd = 3 then portR r 2 ps else if r.kd = 4 then r.pt == 0 && decide (t < r.tb) && decide (r.tb < 3) else false
def soundR (r : Rule) (t : Int) (ps : List Port) : Bool := decide (0 ≤ r.pr) && decide (r.pr ≤ 1048576) && r.mt.sound && r.st.sound && doesR r t ps
end Go.Proofs.Ytokibghllpfeaaa
