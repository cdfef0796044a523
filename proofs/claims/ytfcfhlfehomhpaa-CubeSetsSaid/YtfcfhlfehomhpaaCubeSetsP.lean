/- THE ROW OF CubeSets, PROVED. Conditions: none. -/
import Derived.Test.YtfcfhlfehomhpaaLaw
import Derived.Test.YtfcfhlfehomhpaaCubeV
set_option linter.unusedSimpArgs false
set_option linter.unusedVariables false
namespace Go.Proofs.Ytfcfhlfehomhpaa
open Go.Proofs.Ytfcfhlfehomhpaa.AL Go.ChangeShapes Go.WideShapes Go.ChangeAt Go.RowKit
theorem cubeSets_law (xs : List (List Dat)) (h : IsAll maxLen [(true, cubeSh), (true, cubeSh), (true, headSh)] xs) : ACalls Try.prog 9 (pvs [(true, cubeSh), (true, cubeSh), (true, headSh)] xs) (· = [.d (.v (.bool true))]) := by
  match xs, h with
  | [x1, x2, x3], ⟨h1, h2, h3, _⟩ =>
    obtain ⟨a1, rfl⟩ := is_cb h1
    obtain ⟨a2, rfl⟩ := is_cb h2
    obtain ⟨a3, rfl⟩ := is_hd h3
    exact CubeSets_c a1 a2 a3
set_option maxRecDepth 100000 in
theorem cubeSets_lifted (os : Os) (started : os.Started) (H : Type) (enc : TypeId × Value → H) :
    ReturnsInHanded {} Try.checked os 9 .any (Rows.cubeSetsSpec.pre6 enc Try.prog Try.f9 Rows.cubeSetsRow.domain false) (Rows.cubeSetsSpec.post enc Try.prog Try.f9 false true false false) := by
  refine returnsInHanded_of_change (C := Try.checked) own_knob started (by kernel_rfl) Try.func9
    (ChangeSpec.witness6 (enc := enc) (C := Try.checked) false ⟨#[], #[.agg #[.int .u64 0, .int .u64 0, .int .u64 0, .int .u64 0], .agg #[.int .u64 0, .int .u64 0, .int .u64 0, .int .u64 0], .agg #[.int .u64 0, .int .u64 0]], []⟩ 8 (by kernel_rfl) (by kernel_rfl) (by kernel_rfl) (by kernel_rfl)) ?_
  intro W base args ds gs before hval hW _ _
  have hg : gs = [] := by
    obtain ⟨p, q, hA, hV, _⟩ := hW
    exact (trodVars_none hV).1
  subst hg
  exact law_contract (S := fun _ => True) (tb := 4) bounded_any Try.func9 (by kernel_rfl) (by kernel_rfl) (by kernel_rfl) (by kernel_rfl) (by kernel_rfl) Try.underlying4 rfl (by kernel_rfl) (by intro ds h; rw [Try.params9] at h; match ds, h with | [_, _, _], _ => rfl) cubeSets_law W base args ds [] before hval hW (fun _ _ => trivial)
theorem cubeSets_holds : Rows.CubeSetsSaid :=
  OpenClaim.holds_of_wide 9 Try.f9 rfl rfl rfl rfl rfl rfl rfl ⟨rfl, rfl, rfl, rfl, rfl⟩ rfl rfl rfl rfl rfl (by kernel_rfl) Try.func9 (by kernel_rfl)
    (of_decide_eq_true (by kernel_rfl)) (by unfold Func.isWrapper; first | (rw [if_pos (by decide +kernel)]; kernel_rfl) | (rw [if_neg (by decide +kernel)]; exact ⟨rfl, rfl⟩))
    (fun os started H enc _ => cubeSets_lifted os started H enc)
#print axioms cubeSets_holds
end Go.Proofs.Ytfcfhlfehomhpaa
