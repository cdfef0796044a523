/- THE ROW OF PredsAlike, PROVED, in its second form. Conditions: none. -/
import Derived.Test.YtbamjcnhmmgnlaaKPredsAlikee
set_option linter.unusedSimpArgs false
set_option linter.unusedVariables false
namespace Go.Proofs.Ytbamjcnhmmgnlaa
open Go.Proofs.Ytbamjcnhmmgnlaa.AL Go.ChangeShapes Go.WideShapes Go.ChangeAt Go.RowKit
set_option maxRecDepth 100000 in
theorem predsAlike_law (xs : List (List Dat)) (h : IsAll 1048576 [(true, configSh), (true, spotSh), (false, (.int .u8)), (true, headSh), (true, headSh)] xs) : ACalls Try.prog 9 (pvs [(true, configSh), (true, spotSh), (false, (.int .u8)), (true, headSh), (true, headSh)] xs) (· = [.d (.v (.bool true))]) := by
    obtain ⟨x1, xs, rfl, h1, h⟩ := isAll_cons h
    obtain ⟨x2, xs, rfl, h2, h⟩ := isAll_cons h
    obtain ⟨x3, xs, rfl, h3, h⟩ := isAll_cons h
    obtain ⟨x4, xs, rfl, h4, h⟩ := isAll_cons h
    obtain ⟨x5, xs, rfl, h5, h⟩ := isAll_cons h
    obtain rfl := isAll_nil h
    obtain ⟨a1, rfl, w1⟩ := is_config h1
    obtain ⟨a2, rfl, w2⟩ := is_spot h2
    obtain ⟨a3, rfl, w3⟩ := is_byte h3
    obtain ⟨a4, rfl⟩ := is_hd h4
    obtain ⟨a5, rfl⟩ := is_hd h5
    exact PredsAlike_c a1 a2 a3 a4 a5 w1 (by omega)
set_option maxRecDepth 100000 in
theorem predsAlike_lifted (os : Os) (started : os.Started) (H : Type) (enc : TypeId × Value → H) (F : Stop.Interp) :
    ReturnsInHanded {} Try.checked os 9 .any ((Rows.OpenSpec.upto Rows.predsAlikeSpec).pre6 enc Try.prog Try.f9 Rows.predsAlikeUptoRow.domain false) (((Rows.OpenSpec.upto Rows.predsAlikeSpec).at F).post enc Try.prog Try.f9 false true false false) := by
  refine returnsInHanded_of_cond (C := Try.checked) (s := Rows.OpenSpec.upto Rows.predsAlikeSpec) (k := Rows.uptoSmall) rfl own_knob started (by kernel_rfl) Try.func9
    (OpenSpec.witness (enc := enc) (C := Try.checked) (s := Rows.OpenSpec.upto Rows.predsAlikeSpec) (k := Rows.uptoSmall) rfl false ⟨#[], #[.agg #[.slice none 0 0, .int .i64 0, .slice none 0 0, .slice none 0 0, .slice none 0 0], .agg #[.int .i64 0, .int .i64 0], .int .u8 0, .agg #[.int .u64 0, .int .u64 0], .agg #[.int .u64 0, .int .u64 0]], []⟩ 8 (by kernel_rfl) (by kernel_rfl) (by kernel_rfl)
      (x := ([.agg [.agg [.nil], .agg [.lit (.int .i64 0), .nil, .nil], .nil], .agg [.lit (.int .i64 0), .lit (.int .i64 0)], .lit (.int .u8 0), .agg [.lit (.int .u64 0), .lit (.int .u64 0)], .agg [.lit (.int .u64 0), .lit (.int .u64 0)]], [], [])) (by kernel_rfl) rfl (by kernel_rfl)) ?_
  intro W base args ds gs before hval hW _ hk _
  have hg : gs = [] := by
    obtain ⟨p, q, hA, hV, _⟩ := hW
    exact (trodVars_none hV).1
  subst hg
  exact law_contract (S := fun d => Rows.uptoBulk d ≤ 1048576) (tb := 4) bounded_upto Try.func9 (by kernel_rfl) (by kernel_rfl) (by kernel_rfl) (by kernel_rfl) (by kernel_rfl) Try.underlying4 rfl (by kernel_rfl) (by intro ds h; rw [Try.params9] at h; match ds, h with | [_, _, _, _, _], _ => rfl) predsAlike_law W base args ds [] before hval hW (upto_all hk)
theorem predsAlike_holds : Rows.PredsAlikeUptoSaid :=
  OpenClaim.holds_of_cond 9 Try.f9 rfl rfl rfl rfl rfl rfl rfl ⟨rfl, rfl, rfl, rfl, rfl⟩ rfl rfl rfl rfl rfl (by kernel_rfl) Try.func9 (by kernel_rfl)
    (of_decide_eq_true (by kernel_rfl)) (by unfold Func.isWrapper; first | (rw [if_pos (by decide +kernel)]; kernel_rfl) | (rw [if_neg (by decide +kernel)]; exact ⟨rfl, rfl⟩))
    (fun os started H enc _ F => predsAlike_lifted os started H enc F)
#print axioms predsAlike_holds
end Go.Proofs.Ytbamjcnhmmgnlaa
