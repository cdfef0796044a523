/- Package table and the document's layer 6: Sound. Conditions: none, but that no row is greater than memory bears. -/
import Derived.Test.YtokibghllpfeaaaTopo2
import Derived.Test.YtokibghllpfeaaaRuleRef
set_option linter.unusedSimpArgs false
set_option linter.unusedVariables false
namespace Go.Proofs.Ytokibghllpfeaaa
open Go.Proofs.Ytokibghllpfeaaa.AL
def rowRR (l : List (List Rule)) : Nat → List Dat := fun i => [.sl 12 (l.getD i []).length (rowR (l.getD i []))]
theorem rowRR_at (l : List (List Rule)) (i : Nat) : rowRR l i = [.sl 12 (l.getD i []).length (rowR (l.getD i []))] := rfl
def smallR (t : List (List Rule)) : Prop := t.length ≤ 1048576 ∧ ∀ l ∈ t, l.length ≤ 1048576
theorem smallR_at {t : List (List Rule)} (h : smallR t) (i : Nat) : (t.getD i []).length ≤ 1048576 := by
  by_cases hi : i < t.length
  · exact h.2 _ (getD_in hi [])
  · rw [List.getD_eq_getElem?_getD, List.getElem?_eq_none (by omega)]; simp
def sumR (ts : List (List Rule)) : Nat → Nat
  | 0 => 0
  | i + 1 => sumR ts i + (ts.getD i []).length
theorem sumR_le {ts : List (List Rule)} (h : smallR ts) : ∀ i, sumR ts i ≤ i * 1048576
  | 0 => Nat.le_refl _
  | i + 1 => by
    have h1 := sumR_le h i
    have h2 := smallR_at h i
    unfold sumR
    omega
def ruleOk (ts : List (List Rule)) (ps : List Port) (i k : Nat) : Bool := soundR ((ts.getD i []).getD k r0) i ps && decide (((ts.getD i []).getD k r0).tb < ts.length)
def tabOk (ts : List (List Rule)) (ps : List Port) (i : Nat) : Bool := allF (ruleOk ts ps i) (ts.getD i []).length 0
def soundTab (ts : List (List Rule)) (ps : List Port) : Int := if ts.length = 0 ∨ 3 < ts.length then 4 else if 96 < sumR ts ts.length then 12 else if allF (tabOk ts ps) ts.length 0 = true then 0 else 2
def tabI (ts : List (List Rule)) (ps : List Port) (i : Fin (ts.length + 1)) : ASt :=
  ⟨[(22, .p (.d (.v (.int .i64 (i.val : Int))))), (21, .p (.d (.v (.int .i64 (ts.length : Int))))), (20, .p (.d (.sl 1 ts.length (rowRR ts)))), (5, .p (.d (.v (.int .i64 (sumR ts i.val : Int))))), (1, .p (.d (.sl 5 ps.length (rowP ps)))), (0, .p (.d (.sl 1 ts.length (rowRR ts))))], []⟩
def tabJ (ts : List (List Rule)) (ps : List Port) (R : Int) (s : {i : Nat // i ≤ ts.length ∧ (if allF (tabOk ts ps) ts.length i = true then 0 else 2) = R}) : ASt :=
  ⟨[(35, .p (.d (.v (.int .i64 (s.val : Int))))), (34, .p (.d (.v (.int .i64 (ts.length : Int))))), (33, .p (.d (.sl 1 ts.length (rowRR ts)))), (1, .p (.d (.sl 5 ps.length (rowP ps)))), (0, .p (.d (.sl 1 ts.length (rowRR ts))))], []⟩
def tabK (ts : List (List Rule)) (ps : List Port) (R : Int) (i : Nat) (l : List Rule) (s : {k : Nat // k ≤ l.length ∧ (if (allF (ruleOk ts ps i) l.length k && allF (tabOk ts ps) ts.length (i + 1)) = true then 0 else 2) = R}) : ASt :=
  ⟨[(42, .p (.d (.v (.int .i64 (s.val : Int))))), (41, .p (.d (.v (.int .i64 (l.length : Int))))), (40, .p (.d (.sl 12 l.length (rowR l)))), (35, .p (.d (.v (.int .i64 (i : Int))))), (34, .p (.d (.v (.int .i64 (ts.length : Int))))), (33, .p (.d (.sl 1 ts.length (rowRR ts)))), (8, .p (.d (.v (.int .i64 (i : Int))))), (1, .p (.d (.sl 5 ps.length (rowP ps)))), (0, .p (.d (.sl 1 ts.length (rowRR ts))))], []⟩
def tabRI (ts : List (List Rule)) (ps : List Port) (i : Fin (ts.length + 1)) : ASt :=
  ⟨[(6, .p (.d (.v (.int .i64 (i.val : Int))))), (5, .p (.d (.v (.int .i64 (sumR ts i.val : Int))))), (1, .p (.d (.sl 5 ps.length (rowP ps)))), (0, .p (.d (.sl 1 ts.length (rowRR ts))))], []⟩
def tabRJ (ts : List (List Rule)) (ps : List Port) (R : Int) (s : {i : Nat // i ≤ ts.length ∧ (if allF (tabOk ts ps) ts.length i = true then 0 else 2) = R}) : ASt :=
  ⟨[(7, .p (.d (.v (.int .i64 (s.val : Int))))), (1, .p (.d (.sl 5 ps.length (rowP ps)))), (0, .p (.d (.sl 1 ts.length (rowRR ts))))], []⟩
def tabRK (ts : List (List Rule)) (ps : List Port) (R : Int) (i : Nat) (l : List Rule) (s : {k : Nat // k ≤ l.length ∧ (if (allF (ruleOk ts ps i) l.length k && allF (tabOk ts ps) ts.length (i + 1)) = true then 0 else 2) = R}) : ASt :=
  ⟨[(8, .p (.d (.v (.int .i64 (s.val : Int))))), (7, .p (.d (.v (.int .i64 (i : Int))))), (1, .p (.d (.sl 5 ps.length (rowP ps)))), (0, .p (.d (.sl 1 ts.length (rowRR ts))))], []⟩
end Go.Proofs.Ytokibghllpfeaaa
