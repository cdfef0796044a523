/- THE ROW OF AtomsExact, PROVED, in its second form. Conditions: none. -/
import Derived.Test.YtemcdefpihkfpaaGreatKAtomsExacte
set_option linter.unusedSimpArgs false
set_option linter.unusedVariables false
namespace Go.Proofs.YtemcdefpihkfpaaGreat
open Go.Proofs.YtemcdefpihkfpaaGreat.AL Go.ChangeShapes Go.WideShapes Go.ChangeAt Go.RowKit
set_option maxRecDepth 100000 in
theorem atomsExact_law (xs : List (List Dat)) (h : IsAll 1048576 [(false, (.slice cubeSh))] xs) : ACalls Tryz.prog 4 (pvs [(false, (.slice cubeSh))] xs) (· = [.d (.v (.bool true))]) := by
    obtain ⟨x1, xs, rfl, h1, h⟩ := isAll_cons h
    obtain rfl := isAll_nil h
    obtain ⟨a1, rfl, w1⟩ := is_cbs h1
    exact AtomsExact_c a1 (by omega)
set_option maxRecDepth 100000 in
theorem atomsExact_lifted (os : Os) (started : os.Started) (H : Type) (enc : TypeId × Value → H) (F : Stop.Interp) :
    ReturnsInHanded {} Tryz.checked os 4 .any ((Rows.OpenSpec.upto Rows.atomsExactSpec).pre6 enc Tryz.prog Tryz.f4 Rows.atomsExactUptoRow.domain false) (((Rows.OpenSpec.upto Rows.atomsExactSpec).at F).post enc Tryz.prog Tryz.f4 false true false false) := by
  refine returnsInHanded_of_cond (C := Tryz.checked) (s := Rows.OpenSpec.upto Rows.atomsExactSpec) (k := Rows.uptoSmall) rfl own_knob started (by kernel_rfl) Tryz.func4
    (OpenSpec.witness (enc := enc) (C := Tryz.checked) (s := Rows.OpenSpec.upto Rows.atomsExactSpec) (k := Rows.uptoSmall) rfl false ⟨#[], #[.slice none 0 0], []⟩ 8 (by kernel_rfl) (by kernel_rfl) (by kernel_rfl)
      (x := ([.nil], [], [])) (by kernel_rfl) rfl (by kernel_rfl)) ?_
  intro W base args ds gs before hval hW _ hk _
  have hg : gs = [] := by
    obtain ⟨p, q, hA, hV, _⟩ := hW
    exact (trodVars_none hV).1
  subst hg
  exact law_contract (S := fun d => Rows.uptoBulk d ≤ 1048576) (tb := 4) bounded_upto Tryz.func4 (by kernel_rfl) (by kernel_rfl) (by kernel_rfl) (by kernel_rfl) (by kernel_rfl) Tryz.underlying4 rfl (by kernel_rfl) (by intro ds h; rw [Tryz.params4] at h; match ds, h with | [_], _ => rfl) atomsExact_law W base args ds [] before hval hW (upto_all hk)
theorem atomsExact_holds : Rows.AtomsExactUptoSaid :=
  OpenClaim.holds_of_cond 4 Tryz.f4 rfl rfl rfl rfl rfl rfl rfl ⟨rfl, rfl, rfl, rfl, rfl⟩ rfl rfl rfl rfl rfl (by kernel_rfl) Tryz.func4 (by kernel_rfl)
    (of_decide_eq_true (by kernel_rfl)) (by unfold Func.isWrapper; first | (rw [if_pos (by decide +kernel)]; kernel_rfl) | (rw [if_neg (by decide +kernel)]; exact ⟨rfl, rfl⟩))
    (fun os started H enc _ F => atomsExact_lifted os started H enc F)
#print axioms atomsExact_holds
end Go.Proofs.YtemcdefpihkfpaaGreat
