/- Package topo and the document's layer 7: port, Sound, Edges, Edge. Conditions: none, but that no row is greater than memory bears. -/
import Derived.Test.YtokibghllpfeaaaRule
import Derived.Test.YtokibghllpfeaaaGen
set_option linter.unusedSimpArgs false
set_option linter.unusedVariables false
namespace Go.Proofs.Ytokibghllpfeaaa
open Go.Proofs.Ytokibghllpfeaaa.AL
def portsD (l : List Port) : List Dat := [.sl 5 l.length (rowP l)]
def rowPP (l : List (List Port)) : Nat → List Dat := fun i => [.sl 5 (l.getD i []).length (rowP (l.getD i []))]
theorem rowPP_at (l : List (List Port)) (i : Nat) : rowPP l i = [.sl 5 (l.getD i []).length (rowP (l.getD i []))] := rfl
def topoD (t : List (List Port)) : List Dat := [.sl 1 t.length (rowPP t)]
structure Spot where
  sw : Int
  po : Int
deriving DecidableEq
def spotD (s : Spot) : List Dat := [.v (.int .i64 s.sw), .v (.int .i64 s.po)]
def s0 : Spot := ⟨0, 0⟩
def rowS (l : List Spot) : Nat → List Dat := rowO spotD s0 l
/-- may a port be? -/
def portT (t : List (List Port)) (n at' : Nat) : Bool :=
  let p := (t.getD n []).getD at' p0
  let q := (t.getD p.pe.toNat []).getD p.at'.toNat p0
  if p.kd = 0 then p.tn == 0 && p.pe == 0 && p.at' == 0 && p.co == 0
  else if p.kd = 1 then decide (0 ≤ p.tn) && decide (p.tn < 4) && p.pe == 0 && p.at' == 0 && p.co == 0
  else if p.kd = 2 ∧ p.tn = 0 ∧ 1 ≤ p.co ∧ p.co ≤ 1000 ∧ 0 ≤ p.pe ∧ p.pe < t.length ∧ p.pe ≠ n ∧ 0 ≤ p.at' ∧ p.at' < (t.getD p.pe.toNat []).length then
    q.kd == 2 && q.tn == 0 && q.pe == n && q.at' == at' && q.co == p.co
  else false
/-- the sizes that memory bears -/
def small (t : List (List Port)) : Prop := t.length ≤ 1048576 ∧ ∀ l ∈ t, l.length ≤ 1048576
theorem small_at {t : List (List Port)} (h : small t) (i : Nat) : (t.getD i []).length ≤ 1048576 := by
  by_cases hi : i < t.length
  · exact h.2 _ (getD_in hi [])
  · rw [List.getD_eq_getElem?_getD, List.getElem?_eq_none (by omega)]; simp
theorem eqI_p0 (tn pe at' co : Int) : eqI [0, tn, pe, at', co] [0, 0, 0, 0, 0] = (tn == 0 && pe == 0 && at' == 0 && co == 0) := by simp [eqI, Bool.and_assoc]
theorem eqI_p1 (tn pe at' co : Int) : eqI [1, tn, pe, at', co] [1, tn, 0, 0, 0] = (pe == 0 && at' == 0 && co == 0) := by simp [eqI, Bool.and_assoc]
theorem eqI_p2 (a b c d e n k co : Int) : eqI [a, b, c, d, e] [2, 0, n, k, co] = (a == 2 && b == 0 && c == n && d == k && e == co) := by simp [eqI, Bool.and_assoc]
/-- why a link may not be, or that it may -/
theorem link_cases (tn co pe at' : Int) (N n : Nat) (m : Int) : tn ≠ 0 ∨ (tn = 0 ∧ co < 1) ∨ (tn = 0 ∧ ¬ co < 1 ∧ 1000 < co) ∨ (tn = 0 ∧ ¬ co < 1 ∧ ¬ 1000 < co ∧ pe < 0) ∨ (tn = 0 ∧ ¬ co < 1 ∧ ¬ 1000 < co ∧ 0 ≤ pe ∧ (N : Int) ≤ pe) ∨
    (tn = 0 ∧ ¬ co < 1 ∧ ¬ 1000 < co ∧ 0 ≤ pe ∧ pe < (N : Int) ∧ pe = (n : Int)) ∨ (tn = 0 ∧ ¬ co < 1 ∧ ¬ 1000 < co ∧ 0 ≤ pe ∧ pe < (N : Int) ∧ pe ≠ (n : Int) ∧ at' < 0) ∨
    (tn = 0 ∧ ¬ co < 1 ∧ ¬ 1000 < co ∧ 0 ≤ pe ∧ pe < (N : Int) ∧ pe ≠ (n : Int) ∧ 0 ≤ at' ∧ m ≤ at') ∨
    (tn = 0 ∧ ¬ co < 1 ∧ ¬ 1000 < co ∧ 0 ≤ pe ∧ pe < (N : Int) ∧ pe ≠ (n : Int) ∧ 0 ≤ at' ∧ at' < m) := by omega
end Go.Proofs.Ytokibghllpfeaaa
