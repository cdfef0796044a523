/- THE ROW OF AgentPlays, PROVED, in its second form. Conditions: none. -/
import Derived.Test.YtjfammnjpeeahaaKAgentPlaysc
set_option linter.unusedSimpArgs false
set_option linter.unusedVariables false
namespace Go.Proofs.Ytjfammnjpeeahaa
open Go.Proofs.Ytjfammnjpeeahaa.AL Go.ChangeShapes Go.WideShapes Go.ChangeAt Go.RowKit
set_option maxRecDepth 100000 in
theorem agentPlays_law (xs : List (List Dat)) (h : IsAll 1048576 [(false, (.int .i64)), (false, (.int .i64)), (false, (.int .i64)), (false, tabsASh), (false, (.slice letterSh))] xs) : ACalls Try.prog 4 (pvs [(false, (.int .i64)), (false, (.int .i64)), (false, (.int .i64)), (false, tabsASh), (false, (.slice letterSh))] xs) (· = [.d (.v (.bool true))]) := by
    obtain ⟨x1, xs, rfl, h1, h⟩ := isAll_cons h
    obtain ⟨x2, xs, rfl, h2, h⟩ := isAll_cons h
    obtain ⟨x3, xs, rfl, h3, h⟩ := isAll_cons h
    obtain ⟨x4, xs, rfl, h4, h⟩ := isAll_cons h
    obtain ⟨x5, xs, rfl, h5, h⟩ := isAll_cons h
    obtain rfl := isAll_nil h
    obtain ⟨a1, rfl, w1⟩ := is_int h1
    obtain ⟨a2, rfl, w2⟩ := is_int h2
    obtain ⟨a3, rfl, w3⟩ := is_int h3
    obtain ⟨a4, rfl, w4⟩ := is_tabsA h4
    obtain ⟨a5, rfl, w5⟩ := is_letters h5
    exact AgentPlays_c a1 a2 a3 a4 a5 (by have := wf_i64 w2; unfold inI64; omega) w4 (by have := w5.1; omega) (fun l hl => ⟨(w5.2 l hl).1, (w5.2 l hl).2⟩)
set_option maxRecDepth 100000 in
theorem agentPlays_lifted (os : Os) (started : os.Started) (H : Type) (enc : TypeId × Value → H) (F : Stop.Interp) :
    ReturnsInHanded {} Try.checked os 4 .any ((Rows.OpenSpec.upto Rows.agentPlaysSpec).pre6 enc Try.prog Try.f4 Rows.agentPlaysUptoRow.domain false) (((Rows.OpenSpec.upto Rows.agentPlaysSpec).at F).post enc Try.prog Try.f4 false true false false) := by
  refine returnsInHanded_of_cond (C := Try.checked) (s := Rows.OpenSpec.upto Rows.agentPlaysSpec) (k := Rows.uptoSmall) rfl own_knob started (by kernel_rfl) Try.func4
    (OpenSpec.witness (enc := enc) (C := Try.checked) (s := Rows.OpenSpec.upto Rows.agentPlaysSpec) (k := Rows.uptoSmall) rfl false ⟨#[], #[.int .i64 0, .int .i64 0, .int .i64 0, .slice none 0 0, .slice none 0 0], []⟩ 8 (by kernel_rfl) (by kernel_rfl) (by kernel_rfl)
      (x := ([.lit (.int .i64 0), .lit (.int .i64 0), .lit (.int .i64 0), .nil, .nil], [], [])) (by kernel_rfl) rfl (by kernel_rfl)) ?_
  intro W base args ds gs before hval hW _ hk _
  have hg : gs = [] := by
    obtain ⟨p, q, hA, hV, _⟩ := hW
    exact (trodVars_none hV).1
  subst hg
  exact law_contract (S := fun d => Rows.uptoBulk d ≤ 1048576) (tb := 4) bounded_upto Try.func4 (by kernel_rfl) (by kernel_rfl) (by kernel_rfl) (by kernel_rfl) (by kernel_rfl) Try.underlying4 rfl (by kernel_rfl) (by intro ds h; rw [Try.params4] at h; match ds, h with | [_, _, _, _, _], _ => rfl) agentPlays_law W base args ds [] before hval hW (upto_all hk)
theorem agentPlays_holds : Rows.AgentPlaysUptoSaid :=
  OpenClaim.holds_of_cond 4 Try.f4 rfl rfl rfl rfl rfl rfl rfl ⟨rfl, rfl, rfl, rfl, rfl⟩ rfl rfl rfl rfl rfl (by kernel_rfl) Try.func4 (by kernel_rfl)
    (of_decide_eq_true (by kernel_rfl)) (by unfold Func.isWrapper; first | (rw [if_pos (by decide +kernel)]; kernel_rfl) | (rw [if_neg (by decide +kernel)]; exact ⟨rfl, rfl⟩))
    (fun os started H enc _ F => agentPlays_lifted os started H enc F)
#print axioms agentPlays_holds
end Go.Proofs.Ytjfammnjpeeahaa
