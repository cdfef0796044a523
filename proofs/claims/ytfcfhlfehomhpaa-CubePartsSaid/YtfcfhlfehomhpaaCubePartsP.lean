/- THE ROW OF CubeParts, PROVED. Conditions: none. -/
import Derived.Test.YtfcfhlfehomhpaaLaw
import Derived.Test.YtfcfhlfehomhpaaCubeW
set_option linter.unusedSimpArgs false
set_option linter.unusedVariables false
namespace Go.Proofs.Ytfcfhlfehomhpaa
open Go.Proofs.Ytfcfhlfehomhpaa.AL Go.ChangeShapes Go.WideShapes Go.ChangeAt Go.RowKit
theorem cubeParts_law (xs : List (List Dat)) (h : IsAll maxLen [(true, cubeSh), (true, cubeSh), (true, headSh)] xs) : ACalls Try.prog 7 (pvs [(true, cubeSh), (true, cubeSh), (true, headSh)] xs) (· = [.d (.v (.bool true))]) := by
  match xs, h with
  | [x1, x2, x3], ⟨h1, h2, h3, _⟩ =>
    obtain ⟨a1, rfl⟩ := is_cb h1
    obtain ⟨a2, rfl⟩ := is_cb h2
    obtain ⟨a3, rfl⟩ := is_hd h3
    exact CubeParts_c a1 a2 a3
set_option maxRecDepth 100000 in
theorem cubeParts_lifted (os : Os) (started : os.Started) (H : Type) (enc : TypeId × Value → H) :
    ReturnsInHanded {} Try.checked os 7 .any (Rows.cubePartsSpec.pre6 enc Try.prog Try.f7 Rows.cubePartsRow.domain false) (Rows.cubePartsSpec.post enc Try.prog Try.f7 false true false false) := by
  refine returnsInHanded_of_change (C := Try.checked) own_knob started (by kernel_rfl) Try.func7
    (ChangeSpec.witness6 (enc := enc) (C := Try.checked) false ⟨#[], #[.agg #[.int .u64 0, .int .u64 0, .int .u64 0, .int .u64 0], .agg #[.int .u64 0, .int .u64 0, .int .u64 0, .int .u64 0], .agg #[.int .u64 0, .int .u64 0]], []⟩ 8 (by kernel_rfl) (by kernel_rfl) (by kernel_rfl) (by kernel_rfl)) ?_
  intro W base args ds gs before hval hW _ _
  have hg : gs = [] := by
    obtain ⟨p, q, hA, hV, _⟩ := hW
    exact (trodVars_none hV).1
  subst hg
  exact law_contract (S := fun _ => True) (tb := 4) bounded_any Try.func7 (by kernel_rfl) (by kernel_rfl) (by kernel_rfl) (by kernel_rfl) (by kernel_rfl) Try.underlying4 rfl (by kernel_rfl) (by intro ds h; rw [Try.params7] at h; match ds, h with | [_, _, _], _ => rfl) cubeParts_law W base args ds [] before hval hW (fun _ _ => trivial)
theorem cubeParts_holds : Rows.CubePartsSaid :=
  OpenClaim.holds_of_wide 7 Try.f7 rfl rfl rfl rfl rfl rfl rfl ⟨rfl, rfl, rfl, rfl, rfl⟩ rfl rfl rfl rfl rfl (by kernel_rfl) Try.func7 (by kernel_rfl)
    (of_decide_eq_true (by kernel_rfl)) (by unfold Func.isWrapper; first | (rw [if_pos (by decide +kernel)]; kernel_rfl) | (rw [if_neg (by decide +kernel)]; exact ⟨rfl, rfl⟩))
    (fun os started H enc _ => cubeParts_lifted os started H enc)
#print axioms cubeParts_holds
end Go.Proofs.Ytfcfhlfehomhpaa
