/- The rows' own part, on: rows of numbers as plain data. Conditions: none. -/
import Derived.Test.YtokibghllpfeaaaLaw
import Derived.Test.YtokibghllpfeaaaIdsA
set_option linter.unusedSimpArgs false
set_option linter.unusedVariables false
namespace Go.Proofs.Ytokibghllpfeaaa
open Go.Proofs.Ytokibghllpfeaaa.AL
theorem is_ints {N : Nat} {ds : List Dat} (h : Is N (.slice (.int .i64)) ds) : ∃ l : List Int, ds = [.sl 1 l.length (rowZ l)] ∧ l.length ≤ N := by
  obtain ⟨l, h1, h2, _⟩ := is_list (Q := fun _ => True) (fun n : Int => [Dat.v (.int .i64 n)]) 0 (.int .i64) rfl (fun ds hd => by
    obtain ⟨a, rfl, wa⟩ := hd
    exact ⟨a, rfl, trivial⟩) h
  exact ⟨l, h1, h2⟩
end Go.Proofs.Ytokibghllpfeaaa
