/- THE ROW OF SlimTables, PROVED, in its second form. Conditions: none. -/
import Derived.Test.YtemcdefpihkfpaaGreatKSlimTablesf
set_option linter.unusedSimpArgs false
set_option linter.unusedVariables false
namespace Go.Proofs.YtemcdefpihkfpaaGreat
open Go.Proofs.YtemcdefpihkfpaaGreat.AL Go.ChangeShapes Go.WideShapes Go.ChangeAt Go.RowKit
set_option maxRecDepth 100000 in
theorem slimTables_law (xs : List (List Dat)) (h : IsAll 1048576 [(false, (.slice ruleSh))] xs) : ACalls Tryz.prog 7 (pvs [(false, (.slice ruleSh))] xs) (· = [.d (.v (.bool true))]) := by
    obtain ⟨x1, xs, rfl, h1, h⟩ := j141 h
    obtain rfl := q142 h
    obtain ⟨a1, rfl, w1⟩ := q149 h1
    exact z184 a1 (by omega)
set_option maxRecDepth 100000 in
theorem slimTables_lifted (os : Os) (started : os.Started) (H : Type) (enc : TypeId × Value → H) (F : Stop.Interp) :
    ReturnsInHanded {} Tryz.checked os 7 .any ((Rows.OpenSpec.upto Rows.slimTablesSpec).pre6 enc Tryz.prog Tryz.f7 Rows.slimTablesUptoRow.domain false) (((Rows.OpenSpec.upto Rows.slimTablesSpec).at F).post enc Tryz.prog Tryz.f7 false true false false) := by
  refine returnsInHanded_of_cond (C := Tryz.checked) (s := Rows.OpenSpec.upto Rows.slimTablesSpec) (k := Rows.uptoSmall) rfl z141 started (by kernel_rfl) Tryz.func7
    (OpenSpec.witness (enc := enc) (C := Tryz.checked) (s := Rows.OpenSpec.upto Rows.slimTablesSpec) (k := Rows.uptoSmall) rfl false ⟨#[], #[.slice none 0 0], []⟩ 8 (by kernel_rfl) (by kernel_rfl) (by kernel_rfl)
      (x := ([.nil], [], [])) (by kernel_rfl) rfl (by kernel_rfl)) ?_
  intro W base args ds gs before hval hW _ hk _
  have hg : gs = [] := by
    obtain ⟨p, q, hA, hV, _⟩ := hW
    exact (trodVars_none hV).1
  subst hg
  exact z143 (S := fun d => Rows.uptoBulk d ≤ 1048576) (tb := 4) j143 Tryz.func7 (by kernel_rfl) (by kernel_rfl) (by kernel_rfl) (by kernel_rfl) (by kernel_rfl) Tryz.underlying4 rfl (by kernel_rfl) (by intro ds h; rw [Tryz.params7] at h; match ds, h with | [_], _ => rfl) slimTables_law W base args ds [] before hval hW (q144 hk)
theorem slimTables_holds : Rows.SlimTablesUptoSaid :=
  OpenClaim.holds_of_cond 7 Tryz.f7 rfl rfl rfl rfl rfl rfl rfl ⟨rfl, rfl, rfl, rfl, rfl⟩ rfl rfl rfl rfl rfl (by kernel_rfl) Tryz.func7 (by kernel_rfl)
    (of_decide_eq_true (by kernel_rfl)) (by unfold Func.isWrapper; first | (rw [if_pos (by decide +kernel)]; kernel_rfl) | (rw [if_neg (by decide +kernel)]; exact ⟨rfl, rfl⟩))
    (fun os started H enc _ F => slimTables_lifted os started H enc F)
#print axioms slimTables_holds
end Go.Proofs.YtemcdefpihkfpaaGreat
