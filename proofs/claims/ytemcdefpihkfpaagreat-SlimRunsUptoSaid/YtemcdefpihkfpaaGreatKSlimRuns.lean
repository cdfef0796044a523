/- THE ROW OF SlimRuns, PROVED, in its second form. Conditions: none. -/
import Derived.Test.YtemcdefpihkfpaaGreatKSlimRunsf
set_option linter.unusedSimpArgs false
set_option linter.unusedVariables false
namespace Go.Proofs.YtemcdefpihkfpaaGreat
open Go.Proofs.YtemcdefpihkfpaaGreat.AL Go.ChangeShapes Go.WideShapes Go.ChangeAt Go.RowKit
set_option maxRecDepth 100000 in
theorem slimRuns_law (xs : List (List Dat)) (h : IsAll 1048576 [(true, configSh), (true, spotSh), (true, headSh), (false, (.int .u8))] xs) : ACalls Tryz.prog 9 (pvs [(true, configSh), (true, spotSh), (true, headSh), (false, (.int .u8))] xs) (· = [.d (.v (.bool true))]) := by
    obtain ⟨x1, xs, rfl, h1, h⟩ := x56 h
    obtain ⟨x2, xs, rfl, h2, h⟩ := x56 h
    obtain ⟨x3, xs, rfl, h3, h⟩ := x56 h
    obtain ⟨x4, xs, rfl, h4, h⟩ := x56 h
    obtain rfl := z153 h
    obtain ⟨a1, rfl, w1⟩ := z165 h1
    obtain ⟨a2, rfl, w2⟩ := is_spot h2
    obtain ⟨a3, rfl⟩ := is_hd h3
    obtain ⟨a4, rfl, w4⟩ := is_byte h4
    exact q200 a1 a2 a3 a4 w1 (by omega)
set_option maxRecDepth 100000 in
theorem slimRuns_lifted (os : Os) (started : os.Started) (H : Type) (enc : TypeId × Value → H) (F : Stop.Interp) :
    ReturnsInHanded {} Tryz.checked os 9 .any ((Rows.OpenSpec.upto Rows.slimRunsSpec).pre6 enc Tryz.prog Tryz.f9 Rows.slimRunsUptoRow.domain false) (((Rows.OpenSpec.upto Rows.slimRunsSpec).at F).post enc Tryz.prog Tryz.f9 false true false false) := by
  refine returnsInHanded_of_cond (C := Tryz.checked) (s := Rows.OpenSpec.upto Rows.slimRunsSpec) (k := Rows.uptoSmall) rfl j152 started (by kernel_rfl) Tryz.func9
    (OpenSpec.witness (enc := enc) (C := Tryz.checked) (s := Rows.OpenSpec.upto Rows.slimRunsSpec) (k := Rows.uptoSmall) rfl false ⟨#[], #[.agg #[.slice none 0 0, .int .i64 0, .slice none 0 0, .slice none 0 0, .slice none 0 0], .agg #[.int .i64 0, .int .i64 0], .agg #[.int .u64 0, .int .u64 0], .int .u8 0], []⟩ 8 (by kernel_rfl) (by kernel_rfl) (by kernel_rfl)
      (x := ([.agg [.agg [.nil], .agg [.lit (.int .i64 0), .nil, .nil], .nil], .agg [.lit (.int .i64 0), .lit (.int .i64 0)], .agg [.lit (.int .u64 0), .lit (.int .u64 0)], .lit (.int .u8 0)], [], [])) (by kernel_rfl) rfl (by kernel_rfl)) ?_
  intro W base args ds gs before hval hW _ hk _
  have hg : gs = [] := by
    obtain ⟨p, q, hA, hV, _⟩ := hW
    exact (trodVars_none hV).1
  subst hg
  exact x154 (S := fun d => Rows.uptoBulk d ≤ 1048576) (tb := 4) q155 Tryz.func9 (by kernel_rfl) (by kernel_rfl) (by kernel_rfl) (by kernel_rfl) (by kernel_rfl) Tryz.underlying4 rfl (by kernel_rfl) (by intro ds h; rw [Tryz.params9] at h; match ds, h with | [_, _, _, _], _ => rfl) slimRuns_law W base args ds [] before hval hW (z155 hk)
theorem slimRuns_holds : Rows.SlimRunsUptoSaid :=
  OpenClaim.holds_of_cond 9 Tryz.f9 rfl rfl rfl rfl rfl rfl rfl ⟨rfl, rfl, rfl, rfl, rfl⟩ rfl rfl rfl rfl rfl (by kernel_rfl) Tryz.func9 (by kernel_rfl)
    (of_decide_eq_true (by kernel_rfl)) (by unfold Func.isWrapper; first | (rw [if_pos (by decide +kernel)]; kernel_rfl) | (rw [if_neg (by decide +kernel)]; exact ⟨rfl, rfl⟩))
    (fun os started H enc _ F => slimRuns_lifted os started H enc F)
#print axioms slimRuns_holds
end Go.Proofs.YtemcdefpihkfpaaGreat
