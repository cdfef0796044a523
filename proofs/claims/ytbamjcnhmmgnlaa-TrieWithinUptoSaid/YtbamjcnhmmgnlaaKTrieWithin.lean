/- THE ROW OF TrieWithin, PROVED, in its second form. Conditions: none. -/
import Derived.Test.YtbamjcnhmmgnlaaKTrieWithind
set_option linter.unusedSimpArgs false
set_option linter.unusedVariables false
namespace Go.Proofs.Ytbamjcnhmmgnlaa
open Go.Proofs.Ytbamjcnhmmgnlaa.AL Go.ChangeShapes Go.WideShapes Go.ChangeAt Go.RowKit
set_option maxRecDepth 100000 in
theorem trieWithin_law (xs : List (List Dat)) (h : IsAll 1048576 [(false, (.slice cubeSh)), (true, cubeSh), (true, cubeSh), (true, headSh)] xs) : ACalls Try.prog 3 (pvs [(false, (.slice cubeSh)), (true, cubeSh), (true, cubeSh), (true, headSh)] xs) (· = [.d (.v (.bool true))]) := by
    obtain ⟨x1, xs, rfl, h1, h⟩ := j40 h
    obtain ⟨x2, xs, rfl, h2, h⟩ := j40 h
    obtain ⟨x3, xs, rfl, h3, h⟩ := j40 h
    obtain ⟨x4, xs, rfl, h4, h⟩ := j40 h
    obtain rfl := z116 h
    obtain ⟨a1, rfl, w1⟩ := is_cbs h1
    obtain ⟨a2, rfl⟩ := is_cb h2
    obtain ⟨a3, rfl⟩ := is_cb h3
    obtain ⟨a4, rfl⟩ := is_hd h4
    exact q135 a1 a2 a3 a4 (by omega)
set_option maxRecDepth 100000 in
theorem trieWithin_lifted (os : Os) (started : os.Started) (H : Type) (enc : TypeId × Value → H) (F : Stop.Interp) :
    ReturnsInHanded {} Try.checked os 3 .any ((Rows.OpenSpec.upto Rows.trieWithinSpec).pre6 enc Try.prog Try.f3 Rows.trieWithinUptoRow.domain false) (((Rows.OpenSpec.upto Rows.trieWithinSpec).at F).post enc Try.prog Try.f3 false true false false) := by
  refine returnsInHanded_of_cond (C := Try.checked) (s := Rows.OpenSpec.upto Rows.trieWithinSpec) (k := Rows.uptoSmall) rfl j115 started (by kernel_rfl) Try.func3
    (OpenSpec.witness (enc := enc) (C := Try.checked) (s := Rows.OpenSpec.upto Rows.trieWithinSpec) (k := Rows.uptoSmall) rfl false ⟨#[], #[.slice none 0 0, .agg #[.int .u64 0, .int .u64 0, .int .u64 0, .int .u64 0], .agg #[.int .u64 0, .int .u64 0, .int .u64 0, .int .u64 0], .agg #[.int .u64 0, .int .u64 0]], []⟩ 8 (by kernel_rfl) (by kernel_rfl) (by kernel_rfl)
      (x := ([.nil, .agg [.agg [.lit (.int .u64 0), .lit (.int .u64 0)], .agg [.lit (.int .u64 0), .lit (.int .u64 0)]], .agg [.agg [.lit (.int .u64 0), .lit (.int .u64 0)], .agg [.lit (.int .u64 0), .lit (.int .u64 0)]], .agg [.lit (.int .u64 0), .lit (.int .u64 0)]], [], [])) (by kernel_rfl) rfl (by kernel_rfl)) ?_
  intro W base args ds gs before hval hW _ hk _
  have hg : gs = [] := by
    obtain ⟨p, q, hA, hV, _⟩ := hW
    exact (trodVars_none hV).1
  subst hg
  exact x117 (S := fun d => Rows.uptoBulk d ≤ 1048576) (tb := 4) q118 Try.func3 (by kernel_rfl) (by kernel_rfl) (by kernel_rfl) (by kernel_rfl) (by kernel_rfl) Try.underlying4 rfl (by kernel_rfl) (by intro ds h; rw [Try.params3] at h; match ds, h with | [_, _, _, _], _ => rfl) trieWithin_law W base args ds [] before hval hW (z118 hk)
theorem trieWithin_holds : Rows.TrieWithinUptoSaid :=
  OpenClaim.holds_of_cond 3 Try.f3 rfl rfl rfl rfl rfl rfl rfl ⟨rfl, rfl, rfl, rfl, rfl⟩ rfl rfl rfl rfl rfl (by kernel_rfl) Try.func3 (by kernel_rfl)
    (of_decide_eq_true (by kernel_rfl)) (by unfold Func.isWrapper; first | (rw [if_pos (by decide +kernel)]; kernel_rfl) | (rw [if_neg (by decide +kernel)]; exact ⟨rfl, rfl⟩))
    (fun os started H enc _ F => trieWithin_lifted os started H enc F)
#print axioms trieWithin_holds
end Go.Proofs.Ytbamjcnhmmgnlaa
