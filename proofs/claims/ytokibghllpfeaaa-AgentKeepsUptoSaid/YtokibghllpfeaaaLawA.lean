/- The rows' own part, on: tables and letters as plain data. Conditions: none. -/
import Derived.Test.YtokibghllpfeaaaLawR
import Derived.Test.YtokibghllpfeaaaAgV
set_option linter.unusedSimpArgs false
set_option linter.unusedVariables false
namespace Go.Proofs.Ytokibghllpfeaaa
open Go.Proofs.Ytokibghllpfeaaa.AL
def tabsASh : Sh := .slice (.slice ruleSh)
def letterSh : Sh := .pair (.int .i64) (.pair (.int .i64) (.pair (.int .i64) (.pair (.int .i64) (.pair (.int .i64) (.pair tabsASh .unit)))))
def tabsN (N : Nat) (l : List (List Rule)) : Prop := l.length ≤ N ∧ ∀ r ∈ l, r.length ≤ N
theorem is_tabsA {N : Nat} {ds : List Dat} (h : Is N tabsASh ds) : ∃ l : List (List Rule), ds = [.sl 1 l.length (rowRR l)] ∧ tabsN N l :=
  is_list (fun r : List Rule => [Dat.sl 12 r.length (rowR r)]) [] (.slice ruleSh) (by
    have : rowR [] = fun _ => zeroSh ruleSh := by
      funext i
      show ruleD r0 = _
      simp only [ruleD, r0, hi_zero, lo_zero]; rfl
    show [Dat.sl 12 0 (rowR [])] = _
    rw [this]; rfl) (fun ds hd => is_rules hd) h
def Ltr.okN (N : Nat) (l : Ltr) : Prop := tabsN N l.ts ∧ inI64 l.ve
theorem is_letter {N : Nat} {ds : List Dat} (h : Is N letterSh ds) : ∃ l : Ltr, ds = letD l ∧ l.okN N := by
  obtain ⟨_, _, rfl, ⟨a, rfl, wa⟩, _, _, rfl, ⟨b, rfl, wb⟩, _, _, rfl, ⟨c, rfl, wc⟩, _, _, rfl, ⟨d, rfl, wd⟩, _, _, rfl, ⟨e, rfl, we⟩, _, _, rfl, hf, rfl⟩ := h
  obtain ⟨t, rfl, ht⟩ := is_tabsA hf
  have := wf_i64 wd
  exact ⟨⟨a, b, c, d, e, t⟩, rfl, ht, by unfold inI64; simp only []; omega⟩
theorem is_letters {N : Nat} {ds : List Dat} (h : Is N (.slice letterSh) ds) : ∃ l : List Ltr, ds = [.sl 6 l.length (rowL l)] ∧ l.length ≤ N ∧ ∀ x ∈ l, x.okN N :=
by
  have hz : zeroSh letterSh = letD ltr0 := by
    have h0 : rowR [] = fun _ => zeroSh ruleSh := by
      funext i
      show ruleD r0 = _
      simp only [ruleD, r0, hi_zero, lo_zero]; rfl
    have : rowRR [] = fun _ => zeroSh (.slice ruleSh) := by
      funext i
      show [Dat.sl 12 0 (rowR [])] = _
      rw [h0]; rfl
    show _ = [_, _, _, _, _, Dat.sl 1 0 (rowRR [])]
    rw [this]; rfl
  obtain ⟨l, h1, h2, h3⟩ := is_list (Q := fun x : Ltr => x.okN N) letD ltr0 letterSh hz.symm (fun ds hd => is_letter hd) h
  exact ⟨l, h1, h2, h3⟩
end Go.Proofs.Ytokibghllpfeaaa
