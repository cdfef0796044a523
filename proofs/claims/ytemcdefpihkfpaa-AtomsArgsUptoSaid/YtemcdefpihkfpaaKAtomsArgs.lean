/- THE ROW OF AtomsArgs, PROVED, in its second form. Conditions: none. -/
import Derived.Test.YtemcdefpihkfpaaKAtomsArgsd
set_option linter.unusedSimpArgs false
set_option linter.unusedVariables false
namespace Go.Proofs.Ytemcdefpihkfpaa
open Go.Proofs.Ytemcdefpihkfpaa.AL Go.ChangeShapes Go.WideShapes Go.ChangeAt Go.RowKit
set_option maxRecDepth 100000 in
theorem atomsArgs_law (xs : List (List Dat)) (h : IsAll 1048576 [(false, (.slice atomSh)), (false, (.int .i64)), (true, cubeSh)] xs) : ACalls Try.prog 5 (pvs [(false, (.slice atomSh)), (false, (.int .i64)), (true, cubeSh)] xs) (· = [.d (.v (.bool true))]) := by
    obtain ⟨x1, xs, rfl, h1, h⟩ := isAll_cons h
    obtain ⟨x2, xs, rfl, h2, h⟩ := isAll_cons h
    obtain ⟨x3, xs, rfl, h3, h⟩ := isAll_cons h
    obtain rfl := isAll_nil h
    obtain ⟨a1, rfl, w1⟩ := is_atoms h1
    obtain ⟨a2, rfl, w2⟩ := is_int h2
    obtain ⟨a3, rfl⟩ := is_cb h3
    exact args_c _ a1 rfl a2 a3 w1
set_option maxRecDepth 100000 in
theorem atomsArgs_lifted (os : Os) (started : os.Started) (H : Type) (enc : TypeId × Value → H) (F : Stop.Interp) :
    ReturnsInHanded {} Try.checked os 5 .any ((Rows.OpenSpec.upto Rows.atomsArgsSpec).pre6 enc Try.prog Try.f5 Rows.atomsArgsUptoRow.domain false) (((Rows.OpenSpec.upto Rows.atomsArgsSpec).at F).post enc Try.prog Try.f5 false true false false) := by
  refine returnsInHanded_of_cond (C := Try.checked) (s := Rows.OpenSpec.upto Rows.atomsArgsSpec) (k := Rows.uptoSmall) rfl own_knob started (by kernel_rfl) Try.func5
    (OpenSpec.witness (enc := enc) (C := Try.checked) (s := Rows.OpenSpec.upto Rows.atomsArgsSpec) (k := Rows.uptoSmall) rfl false ⟨#[], #[.slice none 0 0, .int .i64 0, .agg #[.int .u64 0, .int .u64 0, .int .u64 0, .int .u64 0]], []⟩ 8 (by kernel_rfl) (by kernel_rfl) (by kernel_rfl)
      (x := ([.nil, .lit (.int .i64 0), .agg [.agg [.lit (.int .u64 0), .lit (.int .u64 0)], .agg [.lit (.int .u64 0), .lit (.int .u64 0)]]], [], [])) (by kernel_rfl) rfl (by kernel_rfl)) ?_
  intro W base args ds gs before hval hW _ hk _
  have hg : gs = [] := by
    obtain ⟨p, q, hA, hV, _⟩ := hW
    exact (trodVars_none hV).1
  subst hg
  exact law_contract (S := fun d => Rows.uptoBulk d ≤ 1048576) (tb := 4) bounded_upto Try.func5 (by kernel_rfl) (by kernel_rfl) (by kernel_rfl) (by kernel_rfl) (by kernel_rfl) Try.underlying4 rfl (by kernel_rfl) (by intro ds h; rw [Try.params5] at h; match ds, h with | [_, _, _], _ => rfl) atomsArgs_law W base args ds [] before hval hW (upto_all hk)
theorem atomsArgs_holds : Rows.AtomsArgsUptoSaid :=
  OpenClaim.holds_of_cond 5 Try.f5 rfl rfl rfl rfl rfl rfl rfl ⟨rfl, rfl, rfl, rfl, rfl⟩ rfl rfl rfl rfl rfl (by kernel_rfl) Try.func5 (by kernel_rfl)
    (of_decide_eq_true (by kernel_rfl)) (by unfold Func.isWrapper; first | (rw [if_pos (by decide +kernel)]; kernel_rfl) | (rw [if_neg (by decide +kernel)]; exact ⟨rfl, rfl⟩))
    (fun os started H enc _ F => atomsArgs_lifted os started H enc F)
#print axioms atomsArgs_holds
end Go.Proofs.Ytemcdefpihkfpaa
