/- THE ROW OF TableSpare, PROVED, in its second form. Conditions: none. -/
import Derived.Test.YtbiildleaelodaaKTableSparee
set_option linter.unusedSimpArgs false
set_option linter.unusedVariables false
namespace Go.Proofs.Ytbiildleaelodaa
open Go.Proofs.Ytbiildleaelodaa.AL Go.ChangeShapes Go.WideShapes Go.ChangeAt Go.RowKit
set_option maxRecDepth 100000 in
theorem tableSpare_law (xs : List (List Dat)) (h : IsAll 1048576 [(false, (.slice ruleSh)), (true, headSh), (false, (.int .u8))] xs) : ACalls Try.prog 6 (pvs [(false, (.slice ruleSh)), (true, headSh), (false, (.int .u8))] xs) (· = [.d (.v (.bool true))]) := by
    obtain ⟨x1, xs, rfl, h1, h⟩ := isAll_cons h
    obtain ⟨x2, xs, rfl, h2, h⟩ := isAll_cons h
    obtain ⟨x3, xs, rfl, h3, h⟩ := isAll_cons h
    obtain rfl := isAll_nil h
    obtain ⟨a1, rfl, w1⟩ := is_rules h1
    obtain ⟨a2, rfl⟩ := is_hd h2
    obtain ⟨a3, rfl, w3⟩ := is_byte h3
    exact TableSpare_c a1 a2 a3 w3 (by omega)
set_option maxRecDepth 100000 in
theorem tableSpare_lifted (os : Os) (started : os.Started) (H : Type) (enc : TypeId × Value → H) (F : Stop.Interp) :
    ReturnsInHanded {} Try.checked os 6 .any ((Rows.OpenSpec.upto Rows.tableSpareSpec).pre6 enc Try.prog Try.f6 Rows.tableSpareUptoRow.domain false) (((Rows.OpenSpec.upto Rows.tableSpareSpec).at F).post enc Try.prog Try.f6 false true false false) := by
  refine returnsInHanded_of_cond (C := Try.checked) (s := Rows.OpenSpec.upto Rows.tableSpareSpec) (k := Rows.uptoSmall) rfl own_knob started (by kernel_rfl) Try.func6
    (OpenSpec.witness (enc := enc) (C := Try.checked) (s := Rows.OpenSpec.upto Rows.tableSpareSpec) (k := Rows.uptoSmall) rfl false ⟨#[], #[.slice none 0 0, .agg #[.int .u64 0, .int .u64 0], .int .u8 0], []⟩ 8 (by kernel_rfl) (by kernel_rfl) (by kernel_rfl)
      (x := ([.nil, .agg [.lit (.int .u64 0), .lit (.int .u64 0)], .lit (.int .u8 0)], [], [])) (by kernel_rfl) rfl (by kernel_rfl)) ?_
  intro W base args ds gs before hval hW _ hk _
  have hg : gs = [] := by
    obtain ⟨p, q, hA, hV, _⟩ := hW
    exact (trodVars_none hV).1
  subst hg
  exact law_contract (S := fun d => Rows.uptoBulk d ≤ 1048576) (tb := 4) bounded_upto Try.func6 (by kernel_rfl) (by kernel_rfl) (by kernel_rfl) (by kernel_rfl) (by kernel_rfl) Try.underlying4 rfl (by kernel_rfl) (by intro ds h; rw [Try.params6] at h; match ds, h with | [_, _, _], _ => rfl) tableSpare_law W base args ds [] before hval hW (upto_all hk)
theorem tableSpare_holds : Rows.TableSpareUptoSaid :=
  OpenClaim.holds_of_cond 6 Try.f6 rfl rfl rfl rfl rfl rfl rfl ⟨rfl, rfl, rfl, rfl, rfl⟩ rfl rfl rfl rfl rfl (by kernel_rfl) Try.func6 (by kernel_rfl)
    (of_decide_eq_true (by kernel_rfl)) (by unfold Func.isWrapper; first | (rw [if_pos (by decide +kernel)]; kernel_rfl) | (rw [if_neg (by decide +kernel)]; exact ⟨rfl, rfl⟩))
    (fun os started H enc _ F => tableSpare_lifted os started H enc F)
#print axioms tableSpare_holds
end Go.Proofs.Ytbiildleaelodaa
