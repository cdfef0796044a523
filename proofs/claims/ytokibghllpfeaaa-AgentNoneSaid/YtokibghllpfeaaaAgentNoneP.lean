/- THE ROW OF AgentNone, PROVED. Conditions: none. -/
import Derived.Test.YtokibghllpfeaaaLawA
import Derived.Test.YtokibghllpfeaaaAgM
set_option linter.unusedSimpArgs false
set_option linter.unusedVariables false
namespace Go.Proofs.Ytokibghllpfeaaa
open Go.Proofs.Ytokibghllpfeaaa.AL Go.ChangeShapes Go.WideShapes Go.ChangeAt Go.RowKit
set_option maxRecDepth 100000 in
theorem agentNone_law (xs : List (List Dat)) (h : IsAll maxLen [(true, letterSh), (false, (.int .i64))] xs) : ACalls Try.prog 6 (pvs [(true, letterSh), (false, (.int .i64))] xs) (· = [.d (.v (.bool true))]) := by
    obtain ⟨x1, xs, rfl, h1, h⟩ := isAll_cons h
    obtain ⟨x2, xs, rfl, h2, h⟩ := isAll_cons h
    obtain rfl := isAll_nil h
    obtain ⟨a1, rfl, w1⟩ := is_letter h1
    obtain ⟨a2, rfl, w2⟩ := is_int h2
    exact AgentNone_c a1 a2
set_option maxRecDepth 100000 in
theorem agentNone_lifted (os : Os) (started : os.Started) (H : Type) (enc : TypeId × Value → H) :
    ReturnsInHanded {} Try.checked os 6 .any (Rows.agentNoneSpec.pre6 enc Try.prog Try.f6 Rows.agentNoneRow.domain false) (Rows.agentNoneSpec.post enc Try.prog Try.f6 false true false false) := by
  refine returnsInHanded_of_change (C := Try.checked) own_knob started (by kernel_rfl) Try.func6
    (ChangeSpec.witness6 (enc := enc) (C := Try.checked) false ⟨#[], #[.agg #[.int .i64 0, .int .i64 0, .int .i64 0, .int .i64 0, .int .i64 0, .slice none 0 0], .int .i64 0], []⟩ 8 (by kernel_rfl) (by kernel_rfl) (by kernel_rfl) (by kernel_rfl)) ?_
  intro W base args ds gs before hval hW _ _
  have hg : gs = [] := by
    obtain ⟨p, q, hA, hV, _⟩ := hW
    exact (trodVars_none hV).1
  subst hg
  exact law_contract (S := fun _ => True) (tb := 4) bounded_any Try.func6 (by kernel_rfl) (by kernel_rfl) (by kernel_rfl) (by kernel_rfl) (by kernel_rfl) Try.underlying4 rfl (by kernel_rfl) (by intro ds h; rw [Try.params6] at h; match ds, h with | [_, _], _ => rfl) agentNone_law W base args ds [] before hval hW (fun _ _ => trivial)
theorem agentNone_holds : Rows.AgentNoneSaid :=
  OpenClaim.holds_of_wide 6 Try.f6 rfl rfl rfl rfl rfl rfl rfl ⟨rfl, rfl, rfl, rfl, rfl⟩ rfl rfl rfl rfl rfl (by kernel_rfl) Try.func6 (by kernel_rfl)
    (of_decide_eq_true (by kernel_rfl)) (by unfold Func.isWrapper; first | (rw [if_pos (by decide +kernel)]; kernel_rfl) | (rw [if_neg (by decide +kernel)]; exact ⟨rfl, rfl⟩))
    (fun os started H enc _ => agentNone_lifted os started H enc)
#print axioms agentNone_holds
end Go.Proofs.Ytokibghllpfeaaa
