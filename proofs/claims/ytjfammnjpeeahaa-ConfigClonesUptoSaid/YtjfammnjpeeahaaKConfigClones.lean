/- THE ROW OF ConfigClones, PROVED, in its second form. Conditions: none. -/
import Derived.Test.YtjfammnjpeeahaaKConfigClonese
set_option linter.unusedSimpArgs false
set_option linter.unusedVariables false
namespace Go.Proofs.Ytjfammnjpeeahaa
open Go.Proofs.Ytjfammnjpeeahaa.AL Go.ChangeShapes Go.WideShapes Go.ChangeAt Go.RowKit
set_option maxRecDepth 100000 in
theorem configClones_law (xs : List (List Dat)) (h : IsAll 1048576 [(true, configSh), (true, configSh)] xs) : ACalls Try.prog 3 (pvs [(true, configSh), (true, configSh)] xs) (· = [.d (.v (.bool true))]) := by
    obtain ⟨x1, xs, rfl, h1, h⟩ := q78 h
    obtain ⟨x2, xs, rfl, h2, h⟩ := q78 h
    obtain rfl := z121 h
    obtain ⟨a1, rfl, w1⟩ := z84 h1
    obtain ⟨a2, rfl, w2⟩ := z84 h2
    exact x143 a1 a2 w1 w2
set_option maxRecDepth 100000 in
theorem configClones_lifted (os : Os) (started : os.Started) (H : Type) (enc : TypeId × Value → H) (F : Stop.Interp) :
    ReturnsInHanded {} Try.checked os 3 .any ((Rows.OpenSpec.upto Rows.configClonesSpec).pre6 enc Try.prog Try.f3 Rows.configClonesUptoRow.domain false) (((Rows.OpenSpec.upto Rows.configClonesSpec).at F).post enc Try.prog Try.f3 false true false false) := by
  refine returnsInHanded_of_cond (C := Try.checked) (s := Rows.OpenSpec.upto Rows.configClonesSpec) (k := Rows.uptoSmall) rfl j120 started (by kernel_rfl) Try.func3
    (OpenSpec.witness (enc := enc) (C := Try.checked) (s := Rows.OpenSpec.upto Rows.configClonesSpec) (k := Rows.uptoSmall) rfl false ⟨#[], #[.agg #[.slice none 0 0, .int .i64 0, .slice none 0 0, .slice none 0 0, .slice none 0 0], .agg #[.slice none 0 0, .int .i64 0, .slice none 0 0, .slice none 0 0, .slice none 0 0]], []⟩ 8 (by kernel_rfl) (by kernel_rfl) (by kernel_rfl)
      (x := ([.agg [.agg [.nil], .agg [.lit (.int .i64 0), .nil, .nil], .nil], .agg [.agg [.nil], .agg [.lit (.int .i64 0), .nil, .nil], .nil]], [], [])) (by kernel_rfl) rfl (by kernel_rfl)) ?_
  intro W base args ds gs before hval hW _ hk _
  have hg : gs = [] := by
    obtain ⟨p, q, hA, hV, _⟩ := hW
    exact (trodVars_none hV).1
  subst hg
  exact x122 (S := fun d => Rows.uptoBulk d ≤ 1048576) (tb := 4) q123 Try.func3 (by kernel_rfl) (by kernel_rfl) (by kernel_rfl) (by kernel_rfl) (by kernel_rfl) Try.underlying4 rfl (by kernel_rfl) (by intro ds h; rw [Try.params3] at h; match ds, h with | [_, _], _ => rfl) configClones_law W base args ds [] before hval hW (z123 hk)
theorem configClones_holds : Rows.ConfigClonesUptoSaid :=
  OpenClaim.holds_of_cond 3 Try.f3 rfl rfl rfl rfl rfl rfl rfl ⟨rfl, rfl, rfl, rfl, rfl⟩ rfl rfl rfl rfl rfl (by kernel_rfl) Try.func3 (by kernel_rfl)
    (of_decide_eq_true (by kernel_rfl)) (by unfold Func.isWrapper; first | (rw [if_pos (by decide +kernel)]; kernel_rfl) | (rw [if_neg (by decide +kernel)]; exact ⟨rfl, rfl⟩))
    (fun os started H enc _ F => configClones_lifted os started H enc F)
#print axioms configClones_holds
end Go.Proofs.Ytjfammnjpeeahaa
