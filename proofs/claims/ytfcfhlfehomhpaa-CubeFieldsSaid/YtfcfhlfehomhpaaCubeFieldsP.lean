/- THE ROW OF CubeFields, PROVED. Conditions: none. -/
import Derived.Test.YtfcfhlfehomhpaaLaw
import Derived.Test.YtfcfhlfehomhpaaCubeF
set_option linter.unusedSimpArgs false
set_option linter.unusedVariables false
namespace Go.Proofs.Ytfcfhlfehomhpaa
open Go.Proofs.Ytfcfhlfehomhpaa.AL Go.ChangeShapes Go.WideShapes Go.ChangeAt Go.RowKit
set_option maxRecDepth 100000 in
theorem cubeFields_law (xs : List (List Dat)) (h : IsAll maxLen [(false, (.int .i64)), (false, (.int .i64)), (false, (.int .u64)), (false, (.int .i64)), (true, headSh), (true, headSh)] xs) : ACalls Try.prog 6 (pvs [(false, (.int .i64)), (false, (.int .i64)), (false, (.int .u64)), (false, (.int .i64)), (true, headSh), (true, headSh)] xs) (· = [.d (.v (.bool true))]) := by
    obtain ⟨x1, xs, rfl, h1, h⟩ := isAll_cons h
    obtain ⟨x2, xs, rfl, h2, h⟩ := isAll_cons h
    obtain ⟨x3, xs, rfl, h3, h⟩ := isAll_cons h
    obtain ⟨x4, xs, rfl, h4, h⟩ := isAll_cons h
    obtain ⟨x5, xs, rfl, h5, h⟩ := isAll_cons h
    obtain ⟨x6, xs, rfl, h6, h⟩ := isAll_cons h
    obtain rfl := isAll_nil h
    obtain ⟨a1, rfl, w1⟩ := is_int h1
    obtain ⟨a2, rfl, w2⟩ := is_int h2
    obtain ⟨a3, rfl⟩ := is_word h3
    obtain ⟨a4, rfl, w4⟩ := is_int h4
    obtain ⟨a5, rfl⟩ := is_hd h5
    obtain ⟨a6, rfl⟩ := is_hd h6
    exact CubeFields_c a1 a2 a3 a4 a5 a6 (wf_i64 w1) (wf_i64 w2) (wf_i64 w4)
set_option maxRecDepth 100000 in
theorem cubeFields_lifted (os : Os) (started : os.Started) (H : Type) (enc : TypeId × Value → H) :
    ReturnsInHanded {} Try.checked os 6 .any (Rows.cubeFieldsSpec.pre6 enc Try.prog Try.f6 Rows.cubeFieldsRow.domain false) (Rows.cubeFieldsSpec.post enc Try.prog Try.f6 false true false false) := by
  refine returnsInHanded_of_change (C := Try.checked) own_knob started (by kernel_rfl) Try.func6
    (ChangeSpec.witness6 (enc := enc) (C := Try.checked) false ⟨#[], #[.int .i64 0, .int .i64 0, .int .u64 0, .int .i64 0, .agg #[.int .u64 0, .int .u64 0], .agg #[.int .u64 0, .int .u64 0]], []⟩ 8 (by kernel_rfl) (by kernel_rfl) (by kernel_rfl) (by kernel_rfl)) ?_
  intro W base args ds gs before hval hW _ _
  have hg : gs = [] := by
    obtain ⟨p, q, hA, hV, _⟩ := hW
    exact (trodVars_none hV).1
  subst hg
  exact law_contract (S := fun _ => True) (tb := 4) bounded_any Try.func6 (by kernel_rfl) (by kernel_rfl) (by kernel_rfl) (by kernel_rfl) (by kernel_rfl) Try.underlying4 rfl (by kernel_rfl) (by intro ds h; rw [Try.params6] at h; match ds, h with | [_, _, _, _, _, _], _ => rfl) cubeFields_law W base args ds [] before hval hW (fun _ _ => trivial)
theorem cubeFields_holds : Rows.CubeFieldsSaid :=
  OpenClaim.holds_of_wide 6 Try.f6 rfl rfl rfl rfl rfl rfl rfl ⟨rfl, rfl, rfl, rfl, rfl⟩ rfl rfl rfl rfl rfl (by kernel_rfl) Try.func6 (by kernel_rfl)
    (of_decide_eq_true (by kernel_rfl)) (by unfold Func.isWrapper; first | (rw [if_pos (by decide +kernel)]; kernel_rfl) | (rw [if_neg (by decide +kernel)]; exact ⟨rfl, rfl⟩))
    (fun os started H enc _ => cubeFields_lifted os started H enc)
#print axioms cubeFields_holds
end Go.Proofs.Ytfcfhlfehomhpaa
