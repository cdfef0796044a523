/- THE ROW OF SlimSpare, PROVED, in its second form. Conditions: none. -/
import Derived.Test.YtemcdefpihkfpaaGreatKSlimSparef
set_option linter.unusedSimpArgs false
set_option linter.unusedVariables false
namespace Go.Proofs.YtemcdefpihkfpaaGreat
open Go.Proofs.YtemcdefpihkfpaaGreat.AL Go.ChangeShapes Go.WideShapes Go.ChangeAt Go.RowKit
set_option maxRecDepth 100000 in
theorem slimSpare_law (xs : List (List Dat)) (h : IsAll 1048576 [(false, (.slice ruleSh)), (false, (.int .i64))] xs) : ACalls Tryz.prog 6 (pvs [(false, (.slice ruleSh)), (false, (.int .i64))] xs) (· = [.d (.v (.bool true))]) := by
    obtain ⟨x1, xs, rfl, h1, h⟩ := x90 h
    obtain ⟨x2, xs, rfl, h2, h⟩ := x90 h
    obtain rfl := j139 h
    obtain ⟨a1, rfl, w1⟩ := j146 h1
    obtain ⟨a2, rfl, w2⟩ := is_int h2
    exact q183 a1 a2 (by omega)
set_option maxRecDepth 100000 in
theorem slimSpare_lifted (os : Os) (started : os.Started) (H : Type) (enc : TypeId × Value → H) (F : Stop.Interp) :
    ReturnsInHanded {} Tryz.checked os 6 .any ((Rows.OpenSpec.upto Rows.slimSpareSpec).pre6 enc Tryz.prog Tryz.f6 Rows.slimSpareUptoRow.domain false) (((Rows.OpenSpec.upto Rows.slimSpareSpec).at F).post enc Tryz.prog Tryz.f6 false true false false) := by
  refine returnsInHanded_of_cond (C := Tryz.checked) (s := Rows.OpenSpec.upto Rows.slimSpareSpec) (k := Rows.uptoSmall) rfl z139 started (by kernel_rfl) Tryz.func6
    (OpenSpec.witness (enc := enc) (C := Tryz.checked) (s := Rows.OpenSpec.upto Rows.slimSpareSpec) (k := Rows.uptoSmall) rfl false ⟨#[], #[.slice none 0 0, .int .i64 0], []⟩ 8 (by kernel_rfl) (by kernel_rfl) (by kernel_rfl)
      (x := ([.nil, .lit (.int .i64 0)], [], [])) (by kernel_rfl) rfl (by kernel_rfl)) ?_
  intro W base args ds gs before hval hW _ hk _
  have hg : gs = [] := by
    obtain ⟨p, q, hA, hV, _⟩ := hW
    exact (trodVars_none hV).1
  subst hg
  exact q141 (S := fun d => Rows.uptoBulk d ≤ 1048576) (tb := 4) x141 Tryz.func6 (by kernel_rfl) (by kernel_rfl) (by kernel_rfl) (by kernel_rfl) (by kernel_rfl) Tryz.underlying4 rfl (by kernel_rfl) (by intro ds h; rw [Tryz.params6] at h; match ds, h with | [_, _], _ => rfl) slimSpare_law W base args ds [] before hval hW (j141 hk)
theorem slimSpare_holds : Rows.SlimSpareUptoSaid :=
  OpenClaim.holds_of_cond 6 Tryz.f6 rfl rfl rfl rfl rfl rfl rfl ⟨rfl, rfl, rfl, rfl, rfl⟩ rfl rfl rfl rfl rfl (by kernel_rfl) Tryz.func6 (by kernel_rfl)
    (of_decide_eq_true (by kernel_rfl)) (by unfold Func.isWrapper; first | (rw [if_pos (by decide +kernel)]; kernel_rfl) | (rw [if_neg (by decide +kernel)]; exact ⟨rfl, rfl⟩))
    (fun os started H enc _ F => slimSpare_lifted os started H enc F)
#print axioms slimSpare_holds
end Go.Proofs.YtemcdefpihkfpaaGreat
