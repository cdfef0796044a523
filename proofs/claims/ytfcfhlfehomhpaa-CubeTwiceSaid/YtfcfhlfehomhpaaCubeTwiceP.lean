/- THE ROW OF CubeTwice, PROVED. Conditions: none. -/
import Derived.Test.YtfcfhlfehomhpaaLaw
import Derived.Test.YtfcfhlfehomhpaaCubeV
set_option linter.unusedSimpArgs false
set_option linter.unusedVariables false
namespace Go.Proofs.Ytfcfhlfehomhpaa
open Go.Proofs.Ytfcfhlfehomhpaa.AL Go.ChangeShapes Go.WideShapes Go.ChangeAt Go.RowKit
theorem cubeTwice_law (xs : List (List Dat)) (h : IsAll maxLen [(true, cubeSh), (true, cubeSh), (true, cubeSh), (true, headSh)] xs) : ACalls Try.prog 8 (pvs [(true, cubeSh), (true, cubeSh), (true, cubeSh), (true, headSh)] xs) (· = [.d (.v (.bool true))]) := by
  match xs, h with
  | [x1, x2, x3, x4], ⟨h1, h2, h3, h4, _⟩ =>
    obtain ⟨a1, rfl⟩ := is_cb h1
    obtain ⟨a2, rfl⟩ := is_cb h2
    obtain ⟨a3, rfl⟩ := is_cb h3
    obtain ⟨a4, rfl⟩ := is_hd h4
    exact CubeTwice_c a1 a2 a3 a4
set_option maxRecDepth 100000 in
theorem cubeTwice_lifted (os : Os) (started : os.Started) (H : Type) (enc : TypeId × Value → H) :
    ReturnsInHanded {} Try.checked os 8 .any (Rows.cubeTwiceSpec.pre6 enc Try.prog Try.f8 Rows.cubeTwiceRow.domain false) (Rows.cubeTwiceSpec.post enc Try.prog Try.f8 false true false false) := by
  refine returnsInHanded_of_change (C := Try.checked) own_knob started (by kernel_rfl) Try.func8
    (ChangeSpec.witness6 (enc := enc) (C := Try.checked) false ⟨#[], #[.agg #[.int .u64 0, .int .u64 0, .int .u64 0, .int .u64 0], .agg #[.int .u64 0, .int .u64 0, .int .u64 0, .int .u64 0], .agg #[.int .u64 0, .int .u64 0, .int .u64 0, .int .u64 0], .agg #[.int .u64 0, .int .u64 0]], []⟩ 8 (by kernel_rfl) (by kernel_rfl) (by kernel_rfl) (by kernel_rfl)) ?_
  intro W base args ds gs before hval hW _ _
  have hg : gs = [] := by
    obtain ⟨p, q, hA, hV, _⟩ := hW
    exact (trodVars_none hV).1
  subst hg
  exact law_contract (S := fun _ => True) (tb := 4) bounded_any Try.func8 (by kernel_rfl) (by kernel_rfl) (by kernel_rfl) (by kernel_rfl) (by kernel_rfl) Try.underlying4 rfl (by kernel_rfl) (by intro ds h; rw [Try.params8] at h; match ds, h with | [_, _, _, _], _ => rfl) cubeTwice_law W base args ds [] before hval hW (fun _ _ => trivial)
theorem cubeTwice_holds : Rows.CubeTwiceSaid :=
  OpenClaim.holds_of_wide 8 Try.f8 rfl rfl rfl rfl rfl rfl rfl ⟨rfl, rfl, rfl, rfl, rfl⟩ rfl rfl rfl rfl rfl (by kernel_rfl) Try.func8 (by kernel_rfl)
    (of_decide_eq_true (by kernel_rfl)) (by unfold Func.isWrapper; first | (rw [if_pos (by decide +kernel)]; kernel_rfl) | (rw [if_neg (by decide +kernel)]; exact ⟨rfl, rfl⟩))
    (fun os started H enc _ => cubeTwice_lifted os started H enc)
#print axioms cubeTwice_holds
end Go.Proofs.Ytfcfhlfehomhpaa
