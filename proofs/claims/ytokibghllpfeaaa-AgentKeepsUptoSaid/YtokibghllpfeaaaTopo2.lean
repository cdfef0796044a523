/- Package topo and the document's layer 7, on: Sound, Edges, Edge. Conditions: none, but that no row is greater than memory bears. -/
import Derived.Test.YtokibghllpfeaaaTopo
set_option linter.unusedSimpArgs false
set_option linter.unusedVariables false
namespace Go.Proofs.Ytokibghllpfeaaa
open Go.Proofs.Ytokibghllpfeaaa.AL
/-- from i on, below n -/
def allF (f : Nat → Bool) (n i : Nat) : Bool := (List.range' i (n - i)).all f
theorem allF_step {f : Nat → Bool} {n i : Nat} (h : i < n) : allF f n i = (f i && allF f n (i + 1)) := by
  unfold allF
  rw [show n - i = (n - (i + 1)) + 1 by omega, List.range'_succ, List.all_cons]
theorem allF_done {f : Nat → Bool} {n i : Nat} (h : n ≤ i) : allF f n i = true := by
  unfold allF
  rw [show n - i = 0 by omega]; rfl
theorem allF_iff {f : Nat → Bool} {n i : Nat} : allF f n i = true ↔ ∀ k, i ≤ k → k < n → f k = true := by
  unfold allF
  rw [List.all_eq_true]
  constructor
  · intro h k h1 h2
    exact h k (by rw [List.mem_range'_1]; omega)
  · intro h k hk
    rw [List.mem_range'_1] at hk
    exact h k hk.1 (by omega)
def lensT (t : List (List Port)) (i : Nat) : Bool := decide ((t.getD i []).length ≤ 6)
def portsT (t : List (List Port)) (n : Nat) : Bool := allF (portT t n) (t.getD n []).length 0
/-- topo.Sound -/
def soundT (t : List (List Port)) : Int := if t.length = 0 ∨ 6 < t.length then 4 else if allF (lensT t) t.length 0 = false then 4 else if allF (portsT t) t.length 0 = true then 0 else 2
def soundTI (t : List (List Port)) (B : Bool) (s : {i : Nat // i ≤ t.length ∧ allF (lensT t) t.length i = B}) : ASt :=
  ⟨[(21, .p (.d (.v (.int .i64 (s.val : Int))))), (20, .p (.d (.v (.int .i64 (t.length : Int))))), (19, .p (.d (.sl 1 t.length (rowPP t)))), (1, .p (.d (.bx (topoD t))))], []⟩
def soundTJ (t : List (List Port)) (R : Int) (s : {i : Nat // i ≤ t.length ∧ (if allF (portsT t) t.length i = true then 0 else 2) = R}) : ASt :=
  ⟨[(32, .p (.d (.v (.int .i64 (s.val : Int))))), (31, .p (.d (.v (.int .i64 (t.length : Int))))), (30, .p (.d (.sl 1 t.length (rowPP t)))), (1, .p (.d (.bx (topoD t))))], []⟩
def soundTK (t : List (List Port)) (R : Int) (i : Nat) (l : List Port) (s : {k : Nat // k ≤ l.length ∧ (if (allF (portT t i) l.length k && allF (portsT t) t.length (i + 1)) = true then 0 else 2) = R}) : ASt :=
  ⟨[(39, .p (.d (.v (.int .i64 (s.val : Int))))), (38, .p (.d (.v (.int .i64 (l.length : Int))))), (32, .p (.d (.v (.int .i64 (i : Int))))), (31, .p (.d (.v (.int .i64 (t.length : Int))))), (30, .p (.d (.sl 1 t.length (rowPP t)))), (5, .p (.d (.v (.int .i64 (i : Int))))), (1, .p (.d (.bx (topoD t))))], []⟩
def soundRI (t : List (List Port)) (B : Bool) (s : {i : Nat // i ≤ t.length ∧ allF (lensT t) t.length i = B}) : ASt :=
  ⟨[(3, .p (.d (.v (.int .i64 (s.val : Int))))), (1, .p (.d (.bx (topoD t))))], []⟩
def soundRJ (t : List (List Port)) (R : Int) (s : {i : Nat // i ≤ t.length ∧ (if allF (portsT t) t.length i = true then 0 else 2) = R}) : ASt :=
  ⟨[(4, .p (.d (.v (.int .i64 (s.val : Int))))), (1, .p (.d (.bx (topoD t))))], []⟩
def soundRK (t : List (List Port)) (R : Int) (i : Nat) (l : List Port) (s : {k : Nat // k ≤ l.length ∧ (if (allF (portT t i) l.length k && allF (portsT t) t.length (i + 1)) = true then 0 else 2) = R}) : ASt :=
  ⟨[(5, .p (.d (.v (.int .i64 (s.val : Int))))), (4, .p (.d (.v (.int .i64 (i : Int))))), (1, .p (.d (.bx (topoD t))))], []⟩
end Go.Proofs.Ytokibghllpfeaaa
