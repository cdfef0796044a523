/- THE ROW OF RuleSound, PROVED. Conditions: none. -/
import Derived.Test.YtgfnpkpbebihgaaLawR
import Derived.Test.YtgfnpkpbebihgaaRuleLaw2
set_option linter.unusedSimpArgs false
set_option linter.unusedVariables false
namespace Go.Proofs.Ytgfnpkpbebihgaa
open Go.Proofs.Ytgfnpkpbebihgaa.AL Go.ChangeShapes Go.WideShapes Go.ChangeAt Go.RowKit
set_option maxRecDepth 100000 in
theorem ruleSound_law (xs : List (List Dat)) (h : IsAll maxLen [(true, ruleSh), (false, (.int .i64)), (false, (.slice portSh))] xs) : ACalls Try.prog 3 (pvs [(true, ruleSh), (false, (.int .i64)), (false, (.slice portSh))] xs) (· = [.d (.v (.bool true))]) := by
    obtain ⟨x1, xs, rfl, h1, h⟩ := isAll_cons h
    obtain ⟨x2, xs, rfl, h2, h⟩ := isAll_cons h
    obtain ⟨x3, xs, rfl, h3, h⟩ := isAll_cons h
    obtain rfl := isAll_nil h
    obtain ⟨a1, rfl, w1⟩ := is_rule h1
    obtain ⟨a2, rfl, w2⟩ := is_int h2
    obtain ⟨a3, rfl, w3⟩ := is_ports h3
    exact RuleSound_c a1 a2 a3 (by unfold maxLen at w3; omega)
set_option maxRecDepth 100000 in
theorem ruleSound_lifted (os : Os) (started : os.Started) (H : Type) (enc : TypeId × Value → H) :
    ReturnsInHanded {} Try.checked os 3 .any (Rows.ruleSoundSpec.pre6 enc Try.prog Try.f3 Rows.ruleSoundRow.domain false) (Rows.ruleSoundSpec.post enc Try.prog Try.f3 false true false false) := by
  refine returnsInHanded_of_change (C := Try.checked) own_knob started (by kernel_rfl) Try.func3
    (ChangeSpec.witness6 (enc := enc) (C := Try.checked) false ⟨#[], #[.agg #[.int .i64 0, .int .u64 0, .int .u64 0, .int .u64 0, .int .u64 0, .int .i64 0, .int .i64 0, .int .i64 0, .int .u64 0, .int .u64 0, .int .u64 0, .int .u64 0], .int .i64 0, .slice none 0 0], []⟩ 8 (by kernel_rfl) (by kernel_rfl) (by kernel_rfl) (by kernel_rfl)) ?_
  intro W base args ds gs before hval hW _ _
  have hg : gs = [] := by
    obtain ⟨p, q, hA, hV, _⟩ := hW
    exact (trodVars_none hV).1
  subst hg
  exact law_contract (S := fun _ => True) (tb := 4) bounded_any Try.func3 (by kernel_rfl) (by kernel_rfl) (by kernel_rfl) (by kernel_rfl) (by kernel_rfl) Try.underlying4 rfl (by kernel_rfl) (by intro ds h; rw [Try.params3] at h; match ds, h with | [_, _, _], _ => rfl) ruleSound_law W base args ds [] before hval hW (fun _ _ => trivial)
theorem ruleSound_holds : Rows.RuleSoundSaid :=
  OpenClaim.holds_of_wide 3 Try.f3 rfl rfl rfl rfl rfl rfl rfl ⟨rfl, rfl, rfl, rfl, rfl⟩ rfl rfl rfl rfl rfl (by kernel_rfl) Try.func3 (by kernel_rfl)
    (of_decide_eq_true (by kernel_rfl)) (by unfold Func.isWrapper; first | (rw [if_pos (by decide +kernel)]; kernel_rfl) | (rw [if_neg (by decide +kernel)]; exact ⟨rfl, rfl⟩))
    (fun os started H enc _ => ruleSound_lifted os started H enc)
#print axioms ruleSound_holds
end Go.Proofs.Ytgfnpkpbebihgaa
