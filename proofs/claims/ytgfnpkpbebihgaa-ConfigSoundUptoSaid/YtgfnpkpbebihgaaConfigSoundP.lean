/- THE ROW OF ConfigSound, PROVED, in its second form. Conditions: none. -/
import Derived.Test.YtgfnpkpbebihgaaLawC
import Derived.Test.YtgfnpkpbebihgaaLaw8
set_option linter.unusedSimpArgs false
set_option linter.unusedVariables false
namespace Go.Proofs.Ytgfnpkpbebihgaa
open Go.Proofs.Ytgfnpkpbebihgaa.AL Go.ChangeShapes Go.WideShapes Go.ChangeAt Go.RowKit
set_option maxRecDepth 100000 in
theorem configSound_law (xs : List (List Dat)) (h : IsAll 1048576 [(true, configSh)] xs) : ACalls Try.prog 8 (pvs [(true, configSh)] xs) (· = [.d (.v (.bool true))]) := by
    obtain ⟨x1, xs, rfl, h1, h⟩ := isAll_cons h
    obtain rfl := isAll_nil h
    obtain ⟨a1, rfl, w1⟩ := is_config h1
    exact ConfigSound_c a1 w1
set_option maxRecDepth 100000 in
theorem configSound_lifted (os : Os) (started : os.Started) (H : Type) (enc : TypeId × Value → H) (F : Stop.Interp) :
    ReturnsInHanded {} Try.checked os 8 .any ((Rows.OpenSpec.upto Rows.configSoundSpec).pre6 enc Try.prog Try.f8 Rows.configSoundUptoRow.domain false) (((Rows.OpenSpec.upto Rows.configSoundSpec).at F).post enc Try.prog Try.f8 false true false false) := by
  refine returnsInHanded_of_cond (C := Try.checked) (s := Rows.OpenSpec.upto Rows.configSoundSpec) (k := Rows.uptoSmall) rfl own_knob started (by kernel_rfl) Try.func8
    (OpenSpec.witness (enc := enc) (C := Try.checked) (s := Rows.OpenSpec.upto Rows.configSoundSpec) (k := Rows.uptoSmall) rfl false ⟨#[], #[.agg #[.slice none 0 0, .int .i64 0, .slice none 0 0, .slice none 0 0, .slice none 0 0]], []⟩ 8 (by kernel_rfl) (by kernel_rfl) (by kernel_rfl)
      (x := ([.agg [.agg [.nil], .agg [.lit (.int .i64 0), .nil, .nil], .nil]], [], [])) (by kernel_rfl) rfl (by kernel_rfl)) ?_
  intro W base args ds gs before hval hW _ hk _
  have hg : gs = [] := by
    obtain ⟨p, q, hA, hV, _⟩ := hW
    exact (trodVars_none hV).1
  subst hg
  exact law_contract (S := fun d => Rows.uptoBulk d ≤ 1048576) (tb := 4) bounded_upto Try.func8 (by kernel_rfl) (by kernel_rfl) (by kernel_rfl) (by kernel_rfl) (by kernel_rfl) Try.underlying4 rfl (by kernel_rfl) (by intro ds h; rw [Try.params8] at h; match ds, h with | [_], _ => rfl) configSound_law W base args ds [] before hval hW (upto_all hk)
theorem configSound_holds : Rows.ConfigSoundUptoSaid :=
  OpenClaim.holds_of_cond 8 Try.f8 rfl rfl rfl rfl rfl rfl rfl ⟨rfl, rfl, rfl, rfl, rfl⟩ rfl rfl rfl rfl rfl (by kernel_rfl) Try.func8 (by kernel_rfl)
    (of_decide_eq_true (by kernel_rfl)) (by unfold Func.isWrapper; first | (rw [if_pos (by decide +kernel)]; kernel_rfl) | (rw [if_neg (by decide +kernel)]; exact ⟨rfl, rfl⟩))
    (fun os started H enc _ F => configSound_lifted os started H enc F)
#print axioms configSound_holds
end Go.Proofs.Ytgfnpkpbebihgaa
