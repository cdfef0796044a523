/- THE ROW OF PredsClosed, PROVED, in its second form. Conditions: none. -/
import Derived.Test.YtbamjcnhmmgnlaaKPredsClosede
set_option linter.unusedSimpArgs false
set_option linter.unusedVariables false
namespace Go.Proofs.Ytbamjcnhmmgnlaa
open Go.Proofs.Ytbamjcnhmmgnlaa.AL Go.ChangeShapes Go.WideShapes Go.ChangeAt Go.RowKit
set_option maxRecDepth 100000 in
theorem predsClosed_law (xs : List (List Dat)) (h : IsAll 1048576 [(true, configSh), (false, (.int .u8))] xs) : ACalls Try.prog 10 (pvs [(true, configSh), (false, (.int .u8))] xs) (· = [.d (.v (.bool true))]) := by
    obtain ⟨x1, xs, rfl, h1, h⟩ := isAll_cons h
    obtain ⟨x2, xs, rfl, h2, h⟩ := isAll_cons h
    obtain rfl := isAll_nil h
    obtain ⟨a1, rfl, w1⟩ := is_config h1
    obtain ⟨a2, rfl, w2⟩ := is_byte h2
    exact PredsClosed_c a1 a2 w1 (by omega)
set_option maxRecDepth 100000 in
theorem predsClosed_lifted (os : Os) (started : os.Started) (H : Type) (enc : TypeId × Value → H) (F : Stop.Interp) :
    ReturnsInHanded {} Try.checked os 10 .any ((Rows.OpenSpec.upto Rows.predsClosedSpec).pre6 enc Try.prog Try.f10 Rows.predsClosedUptoRow.domain false) (((Rows.OpenSpec.upto Rows.predsClosedSpec).at F).post enc Try.prog Try.f10 false true false false) := by
  refine returnsInHanded_of_cond (C := Try.checked) (s := Rows.OpenSpec.upto Rows.predsClosedSpec) (k := Rows.uptoSmall) rfl own_knob started (by kernel_rfl) Try.func10
    (OpenSpec.witness (enc := enc) (C := Try.checked) (s := Rows.OpenSpec.upto Rows.predsClosedSpec) (k := Rows.uptoSmall) rfl false ⟨#[], #[.agg #[.slice none 0 0, .int .i64 0, .slice none 0 0, .slice none 0 0, .slice none 0 0], .int .u8 0], []⟩ 8 (by kernel_rfl) (by kernel_rfl) (by kernel_rfl)
      (x := ([.agg [.agg [.nil], .agg [.lit (.int .i64 0), .nil, .nil], .nil], .lit (.int .u8 0)], [], [])) (by kernel_rfl) rfl (by kernel_rfl)) ?_
  intro W base args ds gs before hval hW _ hk _
  have hg : gs = [] := by
    obtain ⟨p, q, hA, hV, _⟩ := hW
    exact (trodVars_none hV).1
  subst hg
  exact law_contract (S := fun d => Rows.uptoBulk d ≤ 1048576) (tb := 4) bounded_upto Try.func10 (by kernel_rfl) (by kernel_rfl) (by kernel_rfl) (by kernel_rfl) (by kernel_rfl) Try.underlying4 rfl (by kernel_rfl) (by intro ds h; rw [Try.params10] at h; match ds, h with | [_, _], _ => rfl) predsClosed_law W base args ds [] before hval hW (upto_all hk)
theorem predsClosed_holds : Rows.PredsClosedUptoSaid :=
  OpenClaim.holds_of_cond 10 Try.f10 rfl rfl rfl rfl rfl rfl rfl ⟨rfl, rfl, rfl, rfl, rfl⟩ rfl rfl rfl rfl rfl (by kernel_rfl) Try.func10 (by kernel_rfl)
    (of_decide_eq_true (by kernel_rfl)) (by unfold Func.isWrapper; first | (rw [if_pos (by decide +kernel)]; kernel_rfl) | (rw [if_neg (by decide +kernel)]; exact ⟨rfl, rfl⟩))
    (fun os started H enc _ F => predsClosed_lifted os started H enc F)
#print axioms predsClosed_holds
end Go.Proofs.Ytbamjcnhmmgnlaa
