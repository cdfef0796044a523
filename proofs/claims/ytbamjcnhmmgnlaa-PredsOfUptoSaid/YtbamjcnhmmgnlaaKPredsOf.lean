/- THE ROW OF PredsOf, PROVED, in its second form. Conditions: none. -/
import Derived.Test.YtbamjcnhmmgnlaaKPredsOff
set_option linter.unusedSimpArgs false
set_option linter.unusedVariables false
namespace Go.Proofs.Ytbamjcnhmmgnlaa
open Go.Proofs.Ytbamjcnhmmgnlaa.AL Go.ChangeShapes Go.WideShapes Go.ChangeAt Go.RowKit
set_option maxRecDepth 100000 in
theorem predsOf_law (xs : List (List Dat)) (h : IsAll 1048576 [(true, configSh), (false, (.int .i64))] xs) : ACalls Try.prog 8 (pvs [(true, configSh), (false, (.int .i64))] xs) (· = [.d (.v (.bool true))]) := by
    obtain ⟨x1, xs, rfl, h1, h⟩ := j90 h
    obtain ⟨x2, xs, rfl, h2, h⟩ := j90 h
    obtain rfl := q147 h
    obtain ⟨a1, rfl, w1⟩ := x158 h1
    obtain ⟨a2, rfl, w2⟩ := is_int h2
    exact x179 a1 a2 w1 (x19 w2)
set_option maxRecDepth 100000 in
theorem predsOf_lifted (os : Os) (started : os.Started) (H : Type) (enc : TypeId × Value → H) (F : Stop.Interp) :
    ReturnsInHanded {} Try.checked os 8 .any ((Rows.OpenSpec.upto Rows.predsOfSpec).pre6 enc Try.prog Try.f8 Rows.predsOfUptoRow.domain false) (((Rows.OpenSpec.upto Rows.predsOfSpec).at F).post enc Try.prog Try.f8 false true false false) := by
  refine returnsInHanded_of_cond (C := Try.checked) (s := Rows.OpenSpec.upto Rows.predsOfSpec) (k := Rows.uptoSmall) rfl x146 started (by kernel_rfl) Try.func8
    (OpenSpec.witness (enc := enc) (C := Try.checked) (s := Rows.OpenSpec.upto Rows.predsOfSpec) (k := Rows.uptoSmall) rfl false ⟨#[], #[.agg #[.slice none 0 0, .int .i64 0, .slice none 0 0, .slice none 0 0, .slice none 0 0], .int .i64 0], []⟩ 8 (by kernel_rfl) (by kernel_rfl) (by kernel_rfl)
      (x := ([.agg [.agg [.nil], .agg [.lit (.int .i64 0), .nil, .nil], .nil], .lit (.int .i64 0)], [], [])) (by kernel_rfl) rfl (by kernel_rfl)) ?_
  intro W base args ds gs before hval hW _ hk _
  have hg : gs = [] := by
    obtain ⟨p, q, hA, hV, _⟩ := hW
    exact (trodVars_none hV).1
  subst hg
  exact z148 (S := fun d => Rows.uptoBulk d ≤ 1048576) (tb := 4) j148 Try.func8 (by kernel_rfl) (by kernel_rfl) (by kernel_rfl) (by kernel_rfl) (by kernel_rfl) Try.underlying4 rfl (by kernel_rfl) (by intro ds h; rw [Try.params8] at h; match ds, h with | [_, _], _ => rfl) predsOf_law W base args ds [] before hval hW (q149 hk)
theorem predsOf_holds : Rows.PredsOfUptoSaid :=
  OpenClaim.holds_of_cond 8 Try.f8 rfl rfl rfl rfl rfl rfl rfl ⟨rfl, rfl, rfl, rfl, rfl⟩ rfl rfl rfl rfl rfl (by kernel_rfl) Try.func8 (by kernel_rfl)
    (of_decide_eq_true (by kernel_rfl)) (by unfold Func.isWrapper; first | (rw [if_pos (by decide +kernel)]; kernel_rfl) | (rw [if_neg (by decide +kernel)]; exact ⟨rfl, rfl⟩))
    (fun os started H enc _ F => predsOf_lifted os started H enc F)
#print axioms predsOf_holds
end Go.Proofs.Ytbamjcnhmmgnlaa
