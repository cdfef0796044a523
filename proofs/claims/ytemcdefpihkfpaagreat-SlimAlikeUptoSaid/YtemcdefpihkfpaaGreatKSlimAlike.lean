/- THE ROW OF SlimAlike, PROVED, in its second form. Conditions: none. -/
import Derived.Test.YtemcdefpihkfpaaGreatKSlimAlikef
set_option linter.unusedSimpArgs false
set_option linter.unusedVariables false
namespace Go.Proofs.YtemcdefpihkfpaaGreat
open Go.Proofs.YtemcdefpihkfpaaGreat.AL Go.ChangeShapes Go.WideShapes Go.ChangeAt Go.RowKit
set_option maxRecDepth 100000 in
theorem slimAlike_law (xs : List (List Dat)) (h : IsAll 1048576 [(false, (.slice ruleSh)), (true, headSh)] xs) : ACalls Tryz.prog 8 (pvs [(false, (.slice ruleSh)), (true, headSh)] xs) (· = [.d (.v (.bool true))]) := by
    obtain ⟨x1, xs, rfl, h1, h⟩ := j89 h
    obtain ⟨x2, xs, rfl, h2, h⟩ := j89 h
    obtain rfl := z137 h
    obtain ⟨a1, rfl, w1⟩ := q144 h1
    obtain ⟨a2, rfl⟩ := is_hd h2
    exact q179 a1 a2 (by omega)
set_option maxRecDepth 100000 in
theorem slimAlike_lifted (os : Os) (started : os.Started) (H : Type) (enc : TypeId × Value → H) (F : Stop.Interp) :
    ReturnsInHanded {} Tryz.checked os 8 .any ((Rows.OpenSpec.upto Rows.slimAlikeSpec).pre6 enc Tryz.prog Tryz.f8 Rows.slimAlikeUptoRow.domain false) (((Rows.OpenSpec.upto Rows.slimAlikeSpec).at F).post enc Tryz.prog Tryz.f8 false true false false) := by
  refine returnsInHanded_of_cond (C := Tryz.checked) (s := Rows.OpenSpec.upto Rows.slimAlikeSpec) (k := Rows.uptoSmall) rfl j136 started (by kernel_rfl) Tryz.func8
    (OpenSpec.witness (enc := enc) (C := Tryz.checked) (s := Rows.OpenSpec.upto Rows.slimAlikeSpec) (k := Rows.uptoSmall) rfl false ⟨#[], #[.slice none 0 0, .agg #[.int .u64 0, .int .u64 0]], []⟩ 8 (by kernel_rfl) (by kernel_rfl) (by kernel_rfl)
      (x := ([.nil, .agg [.lit (.int .u64 0), .lit (.int .u64 0)]], [], [])) (by kernel_rfl) rfl (by kernel_rfl)) ?_
  intro W base args ds gs before hval hW _ hk _
  have hg : gs = [] := by
    obtain ⟨p, q, hA, hV, _⟩ := hW
    exact (trodVars_none hV).1
  subst hg
  exact x138 (S := fun d => Rows.uptoBulk d ≤ 1048576) (tb := 4) q139 Tryz.func8 (by kernel_rfl) (by kernel_rfl) (by kernel_rfl) (by kernel_rfl) (by kernel_rfl) Tryz.underlying4 rfl (by kernel_rfl) (by intro ds h; rw [Tryz.params8] at h; match ds, h with | [_, _], _ => rfl) slimAlike_law W base args ds [] before hval hW (z139 hk)
theorem slimAlike_holds : Rows.SlimAlikeUptoSaid :=
  OpenClaim.holds_of_cond 8 Tryz.f8 rfl rfl rfl rfl rfl rfl rfl ⟨rfl, rfl, rfl, rfl, rfl⟩ rfl rfl rfl rfl rfl (by kernel_rfl) Tryz.func8 (by kernel_rfl)
    (of_decide_eq_true (by kernel_rfl)) (by unfold Func.isWrapper; first | (rw [if_pos (by decide +kernel)]; kernel_rfl) | (rw [if_neg (by decide +kernel)]; exact ⟨rfl, rfl⟩))
    (fun os started H enc _ F => slimAlike_lifted os started H enc F)
#print axioms slimAlike_holds
end Go.Proofs.YtemcdefpihkfpaaGreat
