/- THE ROW OF AgentOwn, PROVED, in its second form. Conditions: none. -/
import Derived.Test.YtjfammnjpeeahaaKAgentOwnc
set_option linter.unusedSimpArgs false
set_option linter.unusedVariables false
namespace Go.Proofs.Ytjfammnjpeeahaa
open Go.Proofs.Ytjfammnjpeeahaa.AL Go.ChangeShapes Go.WideShapes Go.ChangeAt Go.RowKit
set_option maxRecDepth 100000 in
theorem agentOwn_law (xs : List (List Dat)) (h : IsAll 1048576 [(false, tabsASh)] xs) : ACalls Try.prog 5 (pvs [(false, tabsASh)] xs) (· = [.d (.v (.bool true))]) := by
    obtain ⟨x1, xs, rfl, h1, h⟩ := isAll_cons h
    obtain rfl := isAll_nil h
    obtain ⟨a1, rfl, w1⟩ := is_tabsA h1
    exact AgentOwn_c a1 w1
set_option maxRecDepth 100000 in
theorem agentOwn_lifted (os : Os) (started : os.Started) (H : Type) (enc : TypeId × Value → H) (F : Stop.Interp) :
    ReturnsInHanded {} Try.checked os 5 .any ((Rows.OpenSpec.upto Rows.agentOwnSpec).pre6 enc Try.prog Try.f5 Rows.agentOwnUptoRow.domain false) (((Rows.OpenSpec.upto Rows.agentOwnSpec).at F).post enc Try.prog Try.f5 false true false false) := by
  refine returnsInHanded_of_cond (C := Try.checked) (s := Rows.OpenSpec.upto Rows.agentOwnSpec) (k := Rows.uptoSmall) rfl own_knob started (by kernel_rfl) Try.func5
    (OpenSpec.witness (enc := enc) (C := Try.checked) (s := Rows.OpenSpec.upto Rows.agentOwnSpec) (k := Rows.uptoSmall) rfl false ⟨#[], #[.slice none 0 0], []⟩ 8 (by kernel_rfl) (by kernel_rfl) (by kernel_rfl)
      (x := ([.nil], [], [])) (by kernel_rfl) rfl (by kernel_rfl)) ?_
  intro W base args ds gs before hval hW _ hk _
  have hg : gs = [] := by
    obtain ⟨p, q, hA, hV, _⟩ := hW
    exact (trodVars_none hV).1
  subst hg
  exact law_contract (S := fun d => Rows.uptoBulk d ≤ 1048576) (tb := 4) bounded_upto Try.func5 (by kernel_rfl) (by kernel_rfl) (by kernel_rfl) (by kernel_rfl) (by kernel_rfl) Try.underlying4 rfl (by kernel_rfl) (by intro ds h; rw [Try.params5] at h; match ds, h with | [_], _ => rfl) agentOwn_law W base args ds [] before hval hW (upto_all hk)
theorem agentOwn_holds : Rows.AgentOwnUptoSaid :=
  OpenClaim.holds_of_cond 5 Try.f5 rfl rfl rfl rfl rfl rfl rfl ⟨rfl, rfl, rfl, rfl, rfl⟩ rfl rfl rfl rfl rfl (by kernel_rfl) Try.func5 (by kernel_rfl)
    (of_decide_eq_true (by kernel_rfl)) (by unfold Func.isWrapper; first | (rw [if_pos (by decide +kernel)]; kernel_rfl) | (rw [if_neg (by decide +kernel)]; exact ⟨rfl, rfl⟩))
    (fun os started H enc _ F => agentOwn_lifted os started H enc F)
#print axioms agentOwn_holds
end Go.Proofs.Ytjfammnjpeeahaa
