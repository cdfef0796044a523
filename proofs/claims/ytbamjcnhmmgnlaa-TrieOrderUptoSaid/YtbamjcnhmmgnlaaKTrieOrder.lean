/- THE ROW OF TrieOrder, PROVED, in its second form. Conditions: none. -/
import Derived.Test.YtbamjcnhmmgnlaaKTrieOrderd
set_option linter.unusedSimpArgs false
set_option linter.unusedVariables false
namespace Go.Proofs.Ytbamjcnhmmgnlaa
open Go.Proofs.Ytbamjcnhmmgnlaa.AL Go.ChangeShapes Go.WideShapes Go.ChangeAt Go.RowKit
set_option maxRecDepth 100000 in
theorem trieOrder_law (xs : List (List Dat)) (h : IsAll 1048576 [(false, (.slice cubeSh)), (true, cubeSh), (true, headSh), (true, cubeSh)] xs) : ACalls Try.prog 6 (pvs [(false, (.slice cubeSh)), (true, cubeSh), (true, headSh), (true, cubeSh)] xs) (· = [.d (.v (.bool true))]) := by
    obtain ⟨x1, xs, rfl, h1, h⟩ := j42 h
    obtain ⟨x2, xs, rfl, h2, h⟩ := j42 h
    obtain ⟨x3, xs, rfl, h3, h⟩ := j42 h
    obtain ⟨x4, xs, rfl, h4, h⟩ := j42 h
    obtain rfl := q121 h
    obtain ⟨a1, rfl, w1⟩ := is_cbs h1
    obtain ⟨a2, rfl⟩ := is_cb h2
    obtain ⟨a3, rfl⟩ := is_hd h3
    obtain ⟨a4, rfl⟩ := is_cb h4
    exact q141 a1 a2 a3 a4 (by omega)
set_option maxRecDepth 100000 in
theorem trieOrder_lifted (os : Os) (started : os.Started) (H : Type) (enc : TypeId × Value → H) (F : Stop.Interp) :
    ReturnsInHanded {} Try.checked os 6 .any ((Rows.OpenSpec.upto Rows.trieOrderSpec).pre6 enc Try.prog Try.f6 Rows.trieOrderUptoRow.domain false) (((Rows.OpenSpec.upto Rows.trieOrderSpec).at F).post enc Try.prog Try.f6 false true false false) := by
  refine returnsInHanded_of_cond (C := Try.checked) (s := Rows.OpenSpec.upto Rows.trieOrderSpec) (k := Rows.uptoSmall) rfl x120 started (by kernel_rfl) Try.func6
    (OpenSpec.witness (enc := enc) (C := Try.checked) (s := Rows.OpenSpec.upto Rows.trieOrderSpec) (k := Rows.uptoSmall) rfl false ⟨#[], #[.slice none 0 0, .agg #[.int .u64 0, .int .u64 0, .int .u64 0, .int .u64 0], .agg #[.int .u64 0, .int .u64 0], .agg #[.int .u64 0, .int .u64 0, .int .u64 0, .int .u64 0]], []⟩ 8 (by kernel_rfl) (by kernel_rfl) (by kernel_rfl)
      (x := ([.nil, .agg [.agg [.lit (.int .u64 0), .lit (.int .u64 0)], .agg [.lit (.int .u64 0), .lit (.int .u64 0)]], .agg [.lit (.int .u64 0), .lit (.int .u64 0)], .agg [.agg [.lit (.int .u64 0), .lit (.int .u64 0)], .agg [.lit (.int .u64 0), .lit (.int .u64 0)]]], [], [])) (by kernel_rfl) rfl (by kernel_rfl)) ?_
  intro W base args ds gs before hval hW _ hk _
  have hg : gs = [] := by
    obtain ⟨p, q, hA, hV, _⟩ := hW
    exact (trodVars_none hV).1
  subst hg
  exact z122 (S := fun d => Rows.uptoBulk d ≤ 1048576) (tb := 4) j122 Try.func6 (by kernel_rfl) (by kernel_rfl) (by kernel_rfl) (by kernel_rfl) (by kernel_rfl) Try.underlying4 rfl (by kernel_rfl) (by intro ds h; rw [Try.params6] at h; match ds, h with | [_, _, _, _], _ => rfl) trieOrder_law W base args ds [] before hval hW (q123 hk)
theorem trieOrder_holds : Rows.TrieOrderUptoSaid :=
  OpenClaim.holds_of_cond 6 Try.f6 rfl rfl rfl rfl rfl rfl rfl ⟨rfl, rfl, rfl, rfl, rfl⟩ rfl rfl rfl rfl rfl (by kernel_rfl) Try.func6 (by kernel_rfl)
    (of_decide_eq_true (by kernel_rfl)) (by unfold Func.isWrapper; first | (rw [if_pos (by decide +kernel)]; kernel_rfl) | (rw [if_neg (by decide +kernel)]; exact ⟨rfl, rfl⟩))
    (fun os started H enc _ F => trieOrder_lifted os started H enc F)
#print axioms trieOrder_holds
end Go.Proofs.Ytbamjcnhmmgnlaa
